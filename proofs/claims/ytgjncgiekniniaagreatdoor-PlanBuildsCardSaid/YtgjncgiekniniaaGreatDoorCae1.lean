/- Part 1 of the proof of PlanBuilds.card. -/
import Derived.Test.YtgjncgiekniniaaGreatDoorCae0
import Derived.Lib.UnsafeStr
import Derived.LoopN
import Derived.WalkSpells
import Derived.Shelf.Strings.SlTrimAscii
import Derived.Test.YtgjncgiekniniaaGreatDoorProg
import Derived.Shelf.RegionOpenPlain
import Derived.Lib.Strings
import Derived.Lib.Walk
import Derived.Lib.Builder
import Derived.WalkKit
import Derived.Laws.Externs
set_option linter.unusedVariables false
set_option linter.unusedSimpArgs false
section
namespace Go.Proofs.YtgjncgiekniniaaGreatDoor.A
open Go Go.RowKit
variable {R:Type}
abbrev Bd (f:Option (V×Store)) (K:V->Store->Option R):Option R:=f.bind λp=>K p.1 p.2
theorem Qfz (C:Ctx) (t:Nat) (S:Store) (x y:V) (K:V->Store->Option R):C.appendV t S x y K=Bd (C.appendV t S x y K0) K:=by
 unfold Ctx.appendV
 repeat' split
 all_goals first|rfl|(cases isNil x<;>cases isCons x<;>rfl)
section
variable {P:Program} {C:Ctx} (hC:Wf P C) {a:Act} {M:Mem} {S:Store} {env:Env} {v:V} {S':Store} {next:Act->World->Prop} {Q:Exit->Act->World->Prop} {I:Inl (V×Store)}
def argV (C:Ctx) (env:Env) (c:Call):List V:=c.args.toList.zipIdx.map λp=>C.opv env (c.argTypes.getD p.2 0) p.1
theorem Wm {c:Call}:(argV C env c).length=c.args.size:=by simp [argV]
theorem Qe4 {c:Call} {j:Nat} (h:j<(argV C env c).length):(argV C env c)[j]=C.opv env (c.argTypes.getD j 0) (c.args[j]'(by rw [Wm] at h;exact h)):=by
 simp [argV]
theorem Qax {c:Call} (hρ:∀ty x,x∈c.operands->Rep M (a.eval x) (C.opv env ty x)):∀j (h:j<(argV C env c).length),Rep M ((c.args.map a.eval).getD j Go.undef) (argV C env c)[j]:=by
 intro j h
 have h':j<c.args.size:=by simpa [argV] using h
 rw [Qe4 h]
 have:=hρ (c.argTypes.getD j 0) c.args[j] (by simp [Call.operands])
 simpa [Array.getD_eq_getD_getElem?,h'] using this
theorem Qo8 {c:Call} (hρ:∀ty x,x∈c.operands->Rep M (a.eval x) (C.opv env ty x)) (hA:∀ty x,x∈c.operands->∀id∈refs1 (C.opv env ty x),M.S id=S.getD id .dead) {x:V} (hargs:argV C env c=[x]) :
  ∃cx,c.args.map a.eval = #[cx]/\Rep M cx x/\(∀id∈refs1 x,M.S id=S.getD id .dead):=by
 have h1:c.args.size=1:=by rw [<-Wm (C:=C) (env:=env),hargs];rfl
 refine ⟨(c.args.map a.eval).getD 0 Go.undef,?_,?_,?_⟩
 ·apply Array.ext
  ·simp [h1]
  ·intro i hi hi'
   have:i=0:=by simp at hi';exact hi'
   subst this
   simp [Array.getD_eq_getD_getElem?,h1]
 ·have:=Qax hρ 0 (by rw [hargs];simp)
  simpa only [hargs,List.getElem_cons_zero] using this
 ·have:=Qe4 (C:=C) (env:=env) (c:=c) (j:=0) (by rw [hargs];simp)
  simp only [hargs,List.getElem_cons_zero] at this
  rw [this];exact hA _ _ (by simp [Call.operands])
theorem Qq2 {c:Call} (hρ:∀ty x,x∈c.operands->Rep M (a.eval x) (C.opv env ty x)) (hA:∀ty x,x∈c.operands->∀id∈refs1 (C.opv env ty x),M.S id=S.getD id .dead) {x y:V} (hargs:argV C env c=[x,y]) :
  ∃cx cy,c.args.map a.eval = #[cx,cy]/\Rep M cx x/\Rep M cy y/\(∀id∈refs1 x,M.S id=S.getD id .dead)/\(∀id∈refs1 y,M.S id=S.getD id .dead):=by
 have h1:c.args.size=2:=by rw [<-Wm (C:=C) (env:=env),hargs];rfl
 refine ⟨(c.args.map a.eval).getD 0 Go.undef,(c.args.map a.eval).getD 1 Go.undef,?_,?_,?_,?_,?_⟩
 ·apply Array.ext
  ·simp [h1]
  ·intro i hi hi'
   have:i=0\/i=1:=by simp at hi';omega
   rcases this with rfl|rfl<;>simp [Array.getD_eq_getD_getElem?,h1]
 ·have:=Qax hρ 0 (by rw [hargs];simp)
  simpa only [hargs,List.getElem_cons_zero] using this
 ·have:=Qax hρ 1 (by rw [hargs];simp)
  simpa only [hargs,List.getElem_cons_succ,List.getElem_cons_zero] using this
 ·have:=Qe4 (C:=C) (env:=env) (c:=c) (j:=0) (by rw [hargs];simp)
  simp only [hargs,List.getElem_cons_zero] at this
  rw [this];exact hA _ _ (by simp [Call.operands])
 ·have:=Qe4 (C:=C) (env:=env) (c:=c) (j:=1) (by rw [hargs];simp)
  simp only [hargs,List.getElem_cons_succ,List.getElem_cons_zero] at this
  rw [this];exact hA _ _ (by simp [Call.operands])
theorem Qd5 {o:Oper} {c:Call} (hop:o.op=.call c) {f:Operand} (hcal:c.callee=.value f) {g:FuncId} {cvs:Array Value} (hf:a.eval f=.func (.func g) #[] cvs) {R:Value->World->Prop}
  (h:CallR P g (c.args.map a.eval++cvs) M.w R) (hn:∀cv w',R cv w'->next (a.put o.dst cv) w'):o.wp P a M.w next Q:=by
 have hrun:(execOp a.eval o).run P M.w=(callFunc g (c.args.map a.eval++cvs)).run P M.w:=by
  simp [execOp,hop,resolve,hcal,hf,Deferred.ofValue,invoke]
 unfold Oper.wp
 rw [hrun]
 unfold CallR at h
 split at h
 ·rename_i e;rw [e];exact hn _ _ h
 ·rename_i e;rw [e]
  exact h.mono λe w' he=>by cases e<;>first|exact hn _ _ he|exact he.elim
 ·exact h.elim
theorem Qw8 {o:Oper} {c:Call} (hop:o.op=.call c) {f:Operand} {m:String} (hcal:c.callee=.invoke f m) {t:TypeId} {g:FuncId} {cv0:Value} (hf:a.eval f=.iface t cv0) (hm:MethOK P t m g) {R:Value->World->Prop}
  (h:CallR P g (#[cv0]++c.args.map a.eval) M.w R) (hn:∀cv w',R cv w'->next (a.put o.dst cv) w'):o.wp P a M.w next Q:=by
 have hex:(#[Value.iface t cv0]++c.args.map a.eval).extract 1 (#[Value.iface t cv0]++c.args.map a.eval).size=c.args.map a.eval:=by
  apply Array.ext
  ·simp
  ·intro i h1 h2
   rw [Array.getElem_extract,Array.getElem_append_right (by simp)]
   simp
 have hrun:(execOp a.eval o).run P M.w=(callFunc g (#[cv0]++c.args.map a.eval)).run P M.w:=by
  have h0:(#[Value.iface t cv0]++c.args.map a.eval)[0]? = some (.iface t cv0):=by rw [Array.getElem?_append_left (by simp)];rfl
  have hmm:=hm cv0 M.w
  simp only [execOp,hop,resolve,hcal,hf,Sem.run_bind,Sem.run_pure,Result.andThen_ok,invoke,h0,hex,callMethod,run_program,hmm]
 unfold Oper.wp
 rw [hrun]
 unfold CallR at h
 split at h
 ·rename_i e;rw [e];exact hn _ _ h
 ·rename_i e;rw [e]
  exact h.mono λe w' he=>by cases e<;>first|exact hn _ _ he|exact he.elim
 ·exact h.elim
theorem Qw9 (w:World) (b n:Nat):w.grownBy (w.freeze ⟨b,0,none⟩ n) (some b):=by
 unfold World.freeze
 split
 ·exact ⟨rfl,rfl,rfl,Nat.le_refl _,λ_ _ _=>rfl⟩
 ·exact ⟨rfl,rfl,rfl,by simp,λk hk hne=>by
   simp only [Array.getElem?_modify]
   rw [if_neg (λe=>hne (by rw [e]))]⟩
theorem Qp9 (hM:M.ok) {id ver:Nat} {g:Bool} {e:Nat} {c:V} (hk:M.S id=.arr ver g e c) {n0:Nat} (hl0:lenV c=some n0) (hc:0<n0) {cx:Value} (hx:Rep M cx (.sref id ver)) (ts:Array TypeId) (ty:TypeId) :
  ∃cv,(Builtin.unsafeSliceData_ ts ty #[cx]).run P M.w=.ok cv M.w/\Rep M cv (.eptr id ver 0 0):=by
 obtain ⟨_,⟨hsm,hle⟩,hp⟩:=Jo hx
 have hcc:contentB (M.S id) ver=some c:=by rw [hk];simp [contentB]
 obtain ⟨loc,n,hμ,hn,rfl⟩:=hp c hcc
 have hB:=hM.blk id _ hμ
 rw [hk] at hB
 obtain ⟨_,hB⟩:=hB
 have hn0:0<n:=by
  rw [hl0] at hn;simp only [Zs] at hn;omega
 cases loc with
 |
  nil a=>
  have h9:=(Qp hB.2).2
  rw [hn] at h9;simp at h9;omega
 |
  blk b o cap=>
  obtain ⟨n2,fl,_,_,hf,rfl,hle2,_⟩:=hB
  have h9:=(Qp hf).2
  rw [hn] at h9;simp at h9
  refine ⟨_,Lib.run_unsafeSliceData_row M.w ts ty ⟨b,0,none⟩ n cap (by omega),.ref ⟨rfl,⟨hsm,hle⟩,λc' hc'=>⟨b,0,cap,hμ,?_⟩⟩⟩
  simp
theorem Qrq (hT:C.T.check P=true) (hM:M.ok) {id ver t e:Nat} (hd:(C.ty t).d=.ptr e) (hb:C.bad e=false) (hs:(C.ty e).size=1) {x:Bool} {l:J0} (hk:M.S id=.arr ver true e (.ints x .u8 l)) (hl:0<l.length) (hby:l.all Qb2=true)
  {cx:Value} (hx:Rep M cx (.eptr id ver 0 0)) (it:TypeId) (ty:TypeId) :
  ∃loc s w',(Builtin.unsafeString_ #[t,it] ty #[cx,.int .i64 l.length]).run P M.w=.ok (.string s) w'/\s.data.toList=(l.map λn=>UInt8.ofNat n.toNat)/\Yb M id loc loc .dead w':=by
 obtain ⟨_,_,hp⟩:=Qcg hx
 have hcc:contentB (M.S id) ver=some (.ints x .u8 l):=by rw [hk];simp [contentB]
 obtain ⟨b,o,cap,hμ,rfl⟩:=hp _ hcc
 have hB:=hM.blk id _ hμ
 rw [hk] at hB
 obtain ⟨hB0,n,fl,cur,fz,hf,rfl,hle,hmx,hh,hcz,hfz,_,_,hcell⟩:=hB
 obtain rfl:=hfz rfl
 simp only [flatV,Zs,Prod.mk.injEq] at hf
 obtain ⟨rfl,rfl⟩:=hf
 have hu:=Qag hT hd
 have hce:P.cellsOf e=1:=by
  obtain ⟨j,d,hj,_,hs',_⟩:=Wu hT (Wd hb)
  simp [Program.cellsOf,hj,hs',hs]
 have hsh:M.w.shape? b=some (e,cur.size):=by simp [World.shape?,hh]
 simp only [zOf,Nat.mul_one] at hcz
 have hget:∀j (h:j<l.length),cur[j]? = some (.int .u8 l[j]):=λj hj=>by
  obtain ⟨h1,h2⟩:=hcell j (by simpa using hj)
  rw [List.getElem_map] at h1
  have:=Qr (M:=M) (.imm h1)
  have hjc:j<cur.size:=by omega
  simp only [Array.getD_eq_getD_getElem?,Array.getElem?_eq_getElem hjc,Option.getD_some] at this
  rw [Array.getElem?_eq_getElem hjc,this]
 have hbyte:∀j (h:j<l.length),((UInt8.ofNat (l[j]).toNat).toNat:Int)=l[j]:=λj hj=>by
  have:=List.all_eq_true.1 hby l[j] (List.getElem_mem hj)
  simp only [Qb2,Bool.and_eq_true,decide_eq_true_eq] at this
  simp only [UInt8.toNat_ofNat']
  omega
 have hlen:(l.map λn=>UInt8.ofNat n.toNat).length=l.length:=by simp
 have hrun:=Lib.run_unsafeString_row (P:=P) M.w t it ty e hu hce b cur.size hsh (l.map λn=>UInt8.ofNat n.toNat) (by intro h;rw [h] at hlen;simp at hlen;omega) (by rw [hlen];omega) (by rw [hlen];unfold maxLen at hmx;omega) (λj y hj=>by
  have hjl:j<l.length:=by
   rcases Nat.lt_or_ge j l.length with h|h
   ·exact h
   ·rw [List.getElem?_eq_none (by simpa using h)] at hj;simp at hj
  rw [Addr.add_lit,Nat.zero_add]
  have h3:(l.map λn=>UInt8.ofNat n.toNat)[j]? = some (UInt8.ofNat (l[j]).toNat):=by simp [List.getElem?_eq_getElem hjl]
  rw [h3] at hj;simp only [Zs] at hj;subst hj
  rw [hbyte j hjl]
  simp [World.cell?,hh,hget j hjl])
 rw [hlen] at hrun
 refine ⟨.blk b 0 cap,_,_,(by simpa using hrun),by simp,?_⟩
 have hg:=Qw9 M.w b l.length
 exact {
     μ:=hμ,own:=by rw [hk];rfl,w:=hg,dst:=λb' o' cap' e=>by cases e;exact ⟨Nat.lt_of_lt_of_le (hB0 _ _ _ rfl).2 hg.size,.inr ⟨_,_,rfl⟩⟩,
     fix:=λh=>by simp [Blk.fix] at h,refs:=λ_ _ _ h=>by simp [contentB] at h,ver:=λ_ _ v h=>by simp [verB] at h}
include hC in
theorem Qwu (o:Oper) {c:Call} (hop:o.op=.call c) (hM:M.ok) (hq:S.length<S'.length->M.μ S.length=none) (hρ:∀ty x,x∈o.op.operands->Rep M (a.eval x) (C.opv env ty x)) (hA:∀ty x,x∈o.op.operands->∀id∈refs1 (C.opv env ty x),M.S id=S.getD id .dead)
  (hinl:isInl C o env=false) (h:C.evOp I true o env S K0=some (v,S')) (hn:Next C o a M S env v S' next):o.wp P a M.w next Q:=by
 have hT:=hC.tab
 have hρ':∀ty x,x∈c.operands->Rep M (a.eval x) (C.opv env ty x):=λty x hx=>hρ ty x (by rw [hop];exact hx)
 have hA':∀ty x,x∈c.operands->∀id∈refs1 (C.opv env ty x),M.S id=S.getD id .dead:=λty x hx=>hA ty x (by rw [hop];exact hx)
 unfold Ctx.evOp at h
 simp only [hop] at h
 cases hcal:c.callee with
 |
  value f=>
  simp only [hcal] at h
  have hf:=hρ' 0 f (by simp [Call.operands,hcal])
  unfold Ctx.callV at h
  split at h
  case h_2=>simp at h
  rename_i g caps he
  have hng:C.inPl g=none:=by
   simp only [isInl,hop,hcal,he] at hinl
   simpa using hinl
  simp only [hng] at h
  rw [he] at hf
  obtain ⟨cvs,e1,hcl,hcr⟩:=J3 hf
  cases hclone:C.clone g with
  |
   some e=>
   simp only [hclone] at h
   split at h
   case h_2=>simp at h
   rename_i x hargs
   split at h
   case isFalse=>simp at h
   rename_i hcont
   change argV C env c=[x] at hargs
   obtain ⟨cx,e2,hx,hS⟩:=Qo8 hρ' hA' hargs
   have hcv:cvs = #[]:=by simpa using hcl
   subst hcv
   have hq':=hq (Qbp h)
   have hs:=hC.clone g e hng hclone M S.length _ _ _ hM hq' (Qa7 hM hS hx hcont) hcont
   rw [<-e2,<-Array.append_empty (xs:=c.args.map a.eval)] at hs
   have hlen:(C.clone g).isSome=true:=by rw [hclone];rfl
   have hW:opW C o env S=[S.length]:=by simp [opW,hop,hcal,he,hclone]
   simp only [K0,Zs,Prod.mk.injEq] at h
   obtain ⟨rfl,rfl⟩:=h
   refine Qd5 hop hcal e1 hs λcv w' ⟨loc,n,hn',hcv,hg,hdst,hb⟩=>?_
   subst hcv
   have hlv:lenV (unexact (immOf S x))=some n:=by
    rw [<-hn'];cases immOf S x<;>rfl
   exact hn _ (M.push S.length (.arr 0 true e (unexact (immOf S x))) loc w') [S.length] (Qa0 hlv (by cases loc<;>rfl)) (post_push hM hq' hg hdst (hb (push_step hM hq' hg hdst))) (by rw [hW];simp)
  |
   none=>
   simp only [hclone] at h
   split at h
   case h_2=>simp at h
   rename_i p hp
   split at h
   case isFalse=>simp at h
   rename_i hc
   simp only [Zn,Bool.false_or,Bool.and_eq_true] at hc
   obtain ⟨hnr,himm⟩:=hc
   have hnr':(argV C env c++caps).all noRef=true:=hnr
   change C.call g ((argV C env c++caps).map (immDeep S))=some p at hp
   change ((argV C env c++caps).map (immDeep S)).all immV=true at himm
   change (p.m.bind λr=>K0 (p.enc r) (Q9 S (argV C env c++caps)))=some (v,S') at h
   rw [Qph hnr'] at hp himm
   rw [Qf5 hnr'] at h
   simp only [Option.bind_eq_some_iff] at h
   obtain ⟨r,hr,hK⟩:=h
   simp only [K0,Zs,Prod.mk.injEq] at hK
   obtain ⟨rfl,rfl⟩:=hK
   have hall:∀j (hj:j<(argV C env c++caps).length),Rep M ((c.args.map a.eval++cvs).getD j Go.undef) (argV C env c++caps)[j]:=by
    intro j hj
    by_cases h1:j<(argV C env c).length
    ·rw [List.getElem_append_left h1]
     have:=Qax hρ' j h1
     rw [Wm] at h1
     simpa [Array.getD_eq_getD_getElem?,Array.getElem?_append_left (show j<(c.args.map a.eval).size by simpa using h1)] using this
    ·rw [List.getElem_append_right (by omega)]
     have:=hcr (j-(argV C env c).length) (by simp at hj;omega)
     rw [Wm] at h1
     have e2:(c.args.map a.eval++cvs).getD j Go.undef=cvs.getD (j-(argV C env c).length) Go.undef:=by
      rw [Wm]
      simp only [Array.getD_eq_getD_getElem?]
      rw [Array.getElem?_append_right (by simpa using h1)];simp
     rw [e2];exact this
   have hs:=hC.call g _ p hng hclone hp M.O M.w (c.args.map a.eval++cvs) r hr (by simp [Wm,hcl]) (λj hj=>Qby (hall j hj) (List.all_eq_true.1 himm _ (List.getElem_mem hj))) hM.low
   exact Qd5 hop hcal e1 hs λcv w' ⟨hg,hr0⟩=>hn cv {M with w:=w'} [] (.imm hr0) (post_world hM S hg) (by simp)
 |
  invoke r m=>
  simp only [hcal] at h
  have hr:=hρ' 0 r (by simp [Call.operands,hcal])
  unfold Ctx.invokeV at h
  split at h
  case h_2=>simp at h
  rename_i t v0 he
  rw [he] at hr
  obtain ⟨cv0,e1,hr0⟩:=Qr2 hr
  rw [show (List.map (λp=>C.opv env (c.argTypes.getD p.snd 0) p.fst) c.args.toList.zipIdx)=argV C env c from rfl] at h
  cases hm:C.meth t m with
  |none=>simp [hm] at h
  |some g=>
  simp only [hm] at h
  cases hng:C.inPl g with
  |some _=>simp [hng] at h
  |none=>
  simp only [hng] at h
  cases hclone:C.clone g with
  |some _=>simp [hclone] at h
  |none=>
  simp only [hclone] at h
  cases hp:C.call g (v0::argV C env c) with
  |none=>simp [hp] at h
  |some p=>
  simp only [hp] at h
  split at h
  case isFalse=>simp at h
  rename_i himm
  simp only [Option.bind_eq_some_iff] at h
  obtain ⟨r0,hr0',hK⟩:=h
  simp only [K0,Zs,Prod.mk.injEq] at hK
  obtain ⟨rfl,rfl⟩:=hK
  have hs:=hC.call g _ p hng hclone hp M.O M.w (#[cv0]++c.args.map a.eval) r0 hr0' (by simp [Wm];omega) (λj hj=>by
   cases j with
   |zero=>simpa [Array.getD_eq_getD_getElem?,Array.getElem?_append] using hr0
   |
    succ j=>
    have hj':j<(argV C env c).length:=by simpa using hj
    have:=Qby (Qax hρ' j hj') (by
     have:=List.all_eq_true.1 himm _ (List.mem_cons_of_mem _ (List.getElem_mem hj'))
     exact this)
    simpa [Array.getD_eq_getD_getElem?,Array.getElem?_append_right (show (#[cv0]:Array Value).size<=j+1 by simp)] using this) hM.low
  exact Qw8 hop hcal e1 (hC.meth t m g hm) hs λcv w' ⟨hg,hr0⟩=>hn cv {M with w:=w'} [] (.imm hr0) (post_world hM S hg) (by simp)
 |
  builtin b=>
  simp only [hcal] at h
  have hrun:∃cs,(execOp a.eval o).run P M.w=(builtin b c.argTypes o.type cs (c.args.map a.eval)).run P M.w:=by
   simp only [execOp,hop,resolve,hcal,invoke,Sem.run_bind,Sem.run_pure,Result.andThen_ok]
   exact ⟨_,rfl⟩
  obtain ⟨cs,hrun⟩:=hrun
  rw [show (List.map (λp=>C.opv env (c.argTypes.getD p.snd 0) p.fst) c.args.toList.zipIdx)=argV C env c from rfl] at h
  have two:=λ{x y:V} (h:argV C env c=[x,y])=>Qq2 hρ' hA' h
  have onev:=λ{x:V} (h:argV C env c=[x])=>Qo8 hρ' hA' h
  have htypes:∀{l:List TypeId},c.argTypes.toList=l->c.argTypes=l.toArray:=λ{l} hl=>by rw [<-hl]
  split at h
  ·rename_i t x ht hargs
   obtain ⟨cx,e1,hx,hS⟩:=onev hargs
   have ht':=htypes ht
   split at h
   ·rename_i s hd
    obtain ⟨s',rfl,rfl⟩:=Yh hx
    refine Qt hM hn ?_ h (.imm (.int _ _))
    rw [hrun,e1,ht']
    have:=run_len_string (P:=P) M.w t o.type s' (Y1 hT hd)
    have hsz:s'.size=s'.data.toList.length:=by rw [Array.length_toList];rfl
    simp only [builtin,Sem.run_bind,this,Result.andThen_ok,Sem.run_pure,goInt,hsz]
   ·rename_i e hd
    split at h
    case h_2=>simp at h
    rename_i n hl
    obtain ⟨A,cap,rfl⟩:=Qn0 hM hS hl hx
    refine Qt hM hn ?_ h (.imm (.int _ _))
    rw [hrun,e1,ht']
    have hu:=(Yn hT hd).1
    have hel:P.elem t=e:=by simp [Program.elem,hu]
    have:=run_len_slice (P:=P) M.w t o.type A n cap (by rw [hel];exact hu)
    simp only [builtin,Sem.run_bind,this,Result.andThen_ok,Sem.run_pure,goInt]
   ·simp at h
  ·rename_i t u x y ht hargs
   obtain ⟨cx,cy,e1,hx,hy,hSx,hSy⟩:=two hargs
   have ht':=htypes ht
   have hrun2:∃cv v' M' S'' wr,(Builtin.append_ #[t,u] o.type #[cx,cy]).run P M.w=.ok cv M'.w/\K0 v' S''=some (v,S')/\Rep M' cv v'/\Post M M' S S'' wr/\wr ⊆ refs1 x++[S.length]:=by
    split at h
    ·rename_i e hd
     by_cases hlen:S.length<S'.length
     ·exact Qgd hT hM (λ_=>hq hlen) hSx hSy h hx hy (Yn hT hd).1 (ty:=o.type)
     ·have h':C.appendV t S x y (λu s=>if s.length<=S.length then some (u,s) else none)=some (v,S'):=by
       rw [Qfz,h];simp only [Bd,Zb];rw [if_pos (by omega)]
      obtain ⟨cv,v',M',S'',wr,a1,a2,a3,a4,a5⟩:=Qgd hT hM (λ⟨u,s,r',hlt,hr'⟩=>by rw [if_neg (by omega)] at hr';simp at hr') hSx hSy h' hx hy (Yn hT hd).1 (ty:=o.type)
      refine ⟨cv,v',M',S'',wr,a1,?_,a3,a4,a5⟩
      split at a2
      ·exact a2
      ·simp at a2
    ·rename_i hd
     split at h
     case h_2=>simp at h
     rename_i s
     by_cases hlen:S.length<S'.length
     ·exact Ql4 hT hM (λ_=>hq hlen) hSx h hx hy (Y1 hT hd) (ty:=o.type)
     ·have h':C.appendV t S x (Qcn s) (λu s=>if s.length<=S.length then some (u,s) else none)=some (v,S'):=by
       rw [Qfz,h];simp only [Bd,Zb];rw [if_pos (by omega)]
      obtain ⟨cv,v',M',S'',wr,a1,a2,a3,a4,a5⟩:=Ql4 hT hM (λ⟨u,s,r',hlt,hr'⟩=>by rw [if_neg (by omega)] at hr';simp at hr') hSx h' hx hy (Y1 hT hd) (ty:=o.type)
      refine ⟨cv,v',M',S'',wr,a1,?_,a3,a4,a5⟩
      split at a2
      ·exact a2
      ·simp at a2
    ·simp at h
   obtain ⟨cv,v',M',S'',wr,hrun',hK,hr,hp,hw⟩:=hrun2
   refine Jj hn ?_ hK hr hp (λi hi=>?_)
   ·rw [hrun,e1,ht']
    simp only [builtin,Sem.run_bind,hrun',Result.andThen_ok,Sem.run_pure]
   ·have hW:opW C o env S=(argV C env c).flatMap refs1++[S.length]:=by simp [opW,hop,hcal,argV]
    rw [hW,hargs]
    have:=hw hi
    simp only [List.mem_append,List.flatMap_cons] at this ⊢
    rcases this with h1|h1
    ·exact .inl (.inl h1)
    ·exact .inr h1
  ·rename_i x y hargs
   obtain ⟨cx,cy,e1,hx,hy,_,_⟩:=two hargs
   unfold maxV at h
   split at h
   case h_2=>simp at h
   obtain rfl:=Qr hx;obtain rfl:=Qr hy
   refine Qt hM hn ?_ h (.imm (.int _ _))
   rw [hrun,e1]
   simp only [builtin,Sem.run_bind,run_max_int2,Result.andThen_ok,Sem.run_pure]
  ·rename_i x y hargs
   obtain ⟨cx,cy,e1,hx,hy,_,_⟩:=two hargs
   unfold minV at h
   split at h
   case h_2=>simp at h
   obtain rfl:=Qr hx;obtain rfl:=Qr hy
   refine Qt hM hn ?_ h (.imm (.int _ _))
   rw [hrun,e1]
   simp only [builtin,Sem.run_bind,run_min_int2,Result.andThen_ok,Sem.run_pure]
  ·rename_i t x ht hargs
   obtain ⟨cx,e1,hx,hS⟩:=onev hargs
   split at h
   case h_2=>simp at h
   rename_i bid ver
   split at h
   case h_2=>simp at h
   rename_i ver' g e cont hk
   split at h
   case isFalse=>simp at h
   rename_i hc
   subst hc
   split at h
   case h_2=>simp at h
   rename_i n0 hl0
   split at h
   case isFalse=>simp at h
   rename_i hc
   obtain ⟨cv,hrun',hr⟩:=Qp9 (P:=P) hM ((hS bid (by simp [refs1])).trans hk) hl0 hc hx c.argTypes o.type
   refine Qt hM hn ?_ h hr
   rw [hrun,e1]
   simp only [builtin,Sem.run_bind,hrun',Result.andThen_ok,Sem.run_pure]
  ·rename_i t u x y ht hargs
   obtain ⟨cx,cy,e1,hx,hy,hSx,hSy⟩:=two hargs
   clear hSy
   have ht':=htypes ht
   split at h
   case h_2=>simp at h
   rename_i bid ver n
   split at h
   case h_2=>simp at h
   rename_i e ver' e' xx l hd hk
   split at h
   case isFalse=>simp at h
   rename_i hc
   obtain ⟨rfl,rfl,hb,hs⟩:=hc
   split at h
   case isFalse=>simp at h
   rename_i hc
   obtain ⟨rfl,hl,hby⟩:=hc
   obtain rfl:=Qr hy
   obtain ⟨loc,s,w',hrun',hsd,hW⟩:=Qrq hT hM hd hb hs ((hSx bid (by simp [refs1])).trans hk) hl hby hx u o.type
   have hlt:=Y8 hk (by simp)
   have hW0:opW C o env S=(argV C env c).flatMap refs1:=by simp [opW,hop,hcal,argV]
   refine Jj hn ?_ h (.imm (.str _ _ hsd)) (post_write hM hW trivial hlt) (by rw [hW0,hargs];simp [refs1])
   rw [hrun,e1,ht']
   simp only [builtin,Sem.run_bind,hrun',Result.andThen_ok,Sem.run_pure,Mem.push]
  ·simp at h
end
variable {R:Type}
theorem Qbd (C:Ctx) (t:Nat) (v:V) (K:V->Option R):C.cast t v K=(C.cast t v some).bind K:=by
 unfold Ctx.cast V.asInt V.asBool V.asStr V.asInts V.asStrs V.asRecs
 repeat' split
 all_goals first|rfl|simp
theorem Qb0 (C:Ctx):∀(ts:List Nat) (vs:List V) (i:Nat) {R:Type} (K:List V->Option R),C.castAll ts vs i K=(C.castAll ts vs i some).bind K
 |[],vs,i,R,K=>rfl
 |
  t::ts,vs,i,R,K=>by
  simp only [Ctx.castAll]
  rw [Qbd,Qbd C t _ (λv=>C.castAll ts vs (i+1) λr=>some (v::r))]
  cases C.cast t (vs.getD i .undef) some with
  |none=>rfl
  |
   some v=>
   simp only [Zb]
   rw [Qb0 C ts vs (i+1) (λr=>K (v::r)),Qb0 C ts vs (i+1) (λr=>some (v::r))]
   cases C.castAll ts vs (i+1) some<;>rfl
theorem Qbj (C:Ctx) (t:Nat) (S:Store) (x:V) (K:V->Option R):C.loadV t S x K=(C.loadV t S x some).bind K:=by
 unfold Ctx.loadV
 repeat' split
 all_goals first|rfl|skip
 ·rw [Qb0,Qb0 C _ _ _ (λcs=>some (V.agg cs))]
  cases C.castAll _ _ _ some<;>rfl
 ·exact Qbd C _ _ _
theorem Qhf (C:Ctx) (t:Nat) (S:Store) (x v:V) (K:Store->Option R):C.storeV t S x v K=(C.storeV t S x v some).bind K:=by
 unfold Ctx.storeV
 repeat' split
 all_goals rfl
theorem Qg8 (C:Ctx) (op:BinOp) (t:Nat) (S:Store) (x y:V) (K:V->Option R):C.binOpV op t S x y K=(C.binOpV op t S x y some).bind K:=by
 unfold Ctx.binOpV
 repeat' split
 all_goals rfl
theorem Qgo (C:Ctx) (t:Nat) (S:Store) (x y:V) (K:V->Option R):C.indexAddrV t S x y K=(C.indexAddrV t S x y some).bind K:=by
 unfold Ctx.indexAddrV
 repeat' split
 all_goals first|rfl|skip
 rw [Qb0,Qb0 C _ _ _ (λcs=>some (V.cptr cs))]
 cases C.castAll _ _ _ some<;>rfl
theorem Qia (C:Ctx) (t:Nat) (S:Store) (x:V) (lo hi mx:Option V) (K:V->Option R):C.sliceV t S x lo hi mx K=(C.sliceV t S x lo hi mx some).bind K:=by
 unfold Ctx.sliceV Qep Qfp
 repeat' split
 all_goals rfl
theorem Qjh (C:Ctx) (t:Nat) (S:Store) (x:V) (lo hi:Option V) (K:V->Option R):C.sliceArr t S x lo hi K=(C.sliceArr t S x lo hi some).bind K:=by
 unfold Ctx.sliceArr
 repeat' split
 all_goals rfl
theorem Qt2 (C:Ctx) (src dst:Nat) (S:Store) (x:V) (K:V->Store->Option R):C.convertV src dst S x K=Bd (C.convertV src dst S x K0) K:=by
 unfold Ctx.convertV
 repeat' split
 all_goals rfl
theorem Qw6 (C:Ctx) (t:Nat) (S:Store) (n:Int) (K:V->Store->Option R):C.makeSliceV t S n K=Bd (C.makeSliceV t S n K0) K:=by
 unfold Ctx.makeSliceV
 repeat' split
 all_goals rfl
theorem Qro (C:Ctx) (I:Inl R) (I':Inl (V×Store)) (b:Bool) (f:V) (args:List V) (S:Store) (K:V->Store->Option R) (h:∀g caps,f=.func g caps->C.inPl g=none):C.callV I b f args S K=Bd (C.callV I' b f args S K0) K:=by
 unfold Ctx.callV
 cases f<;>try rfl
 rename_i g caps
 simp only [h g caps rfl]
 repeat' split
 all_goals first|rfl|skip
 rename_i p _ _
 cases p.m<;>rfl
theorem Qwx (C:Ctx) (I:Inl R) (I':Inl (V×Store)) (b:Bool) (o:Oper) (env:Env) (S:Store) (K:V->Store->Option R) (h:isInl C o env=false):C.evOp I b o env S K=Bd (C.evOp I' b o env S K0) K:=by
 obtain ⟨dst,op,type,pos,after,guard⟩:=o
 unfold Ctx.evOp
 cases op<;>simp only
 case load t a=>rw [Qbj,Qbj C _ _ _ (λv=>K0 v S)];cases C.loadV t S (C.opv env 0 a) some<;>rfl
 case store t a x=>rw [Qhf,Qhf C _ _ _ _ (λS'=>K0 _ S')];cases C.storeV t S (C.opv env 0 a) (C.opv env t x) some<;>rfl
 case binOp op t x y z=>rw [Qg8,Qg8 C _ _ _ _ _ (λv=>K0 v S)];cases C.binOpV op t S (C.opv env t x) (C.opv env t y) some<;>rfl
 case convert src d x=>exact Qt2 ..
 case indexAddr t x ix=>rw [Qgo,Qgo C _ _ _ _ (λv=>K0 v S)];cases C.indexAddrV t S (C.opv env t x) (C.opv env 0 ix) some<;>rfl
 case call c=>
  split
  ·rename_i f hf
   refine Qro C I I' b _ _ S K (λg caps he=>?_)
   simp only [isInl,hf,he] at h
   simpa using h
  ·split
   all_goals first|rfl|skip
   ·repeat' split
    all_goals rfl
   ·repeat' split
    all_goals first|rfl|exact Qfz ..
   ·unfold maxV;split<;>rfl
   ·unfold minV;split<;>rfl
   ·repeat' split
    all_goals rfl
   ·repeat' split
    all_goals rfl
  ·unfold Ctx.invokeV
   repeat' split
   all_goals first|rfl|skip
   rename_i p _ _
   cases p.m<;>rfl
 case pick c x y=>
  repeat' split
  all_goals first|rfl|(rename_i c _ _ _ _;cases c<;>rfl)|(rename_i c _ _ _;cases c<;>rfl)|skip
 case slice t x lo hi mx=>
  split
  ·split
   ·rw [Qjh,Qjh C _ _ _ _ _ (λv=>K0 v S)];cases C.sliceArr t S (C.opv env 0 x) (lo.map (C.opv env 0)) (hi.map (C.opv env 0)) some<;>rfl
   ·rfl
  ·rw [Qia,Qia C _ _ _ _ _ _ (λv=>K0 v S)];cases C.sliceV t S (C.opv env t x) (lo.map (C.opv env 0)) (hi.map (C.opv env 0)) (mx.map (C.opv env 0)) some<;>rfl
 case makeSlice t l c=>
  split
  ·split
   ·exact Qw6 ..
   ·rfl
  ·rfl
 case index t x ix=>
  repeat' split
  all_goals first|rfl|skip
  rename_i e _ _ _
  rw [Qbd,Qbd C _ _ (λv=>K0 v S)]
  cases C.cast _ _ some<;>rfl
 case next it b=>cases b<;>simp only<;>(repeat' split)<;>rfl
 all_goals first|rfl|((repeat' split)<;>rfl)|skip
def Mem.freeze (M:Mem) (id ver:Nat) (c:V):Mem:=
 {M with O:=λb=>M.O b/\¬∃o cap,M.μ id=some (.blk b o cap),S:=upd M.S id (.imm ver c)}
theorem Qgt {M:Mem} (hM:M.ok) {id ver:Nat} {g:Bool} {e:Nat} {c:V} (hk:M.S id=.arr ver g e c):Step M (M.freeze id ver c) where
 size:=Nat.le_refl _
 os:=rfl
 tape:=rfl
 output:=rfl
 keep b hb hn:=⟨rfl,⟨λh=>h.1,λh=>⟨h,λ⟨o,cap,he⟩=>hn ⟨id,o,cap,by rw [hk];rfl,he⟩⟩⟩⟩
 osub b hb h:=h.1
 own' b hb h:=by
  obtain ⟨i,o,cap,h1,h2⟩:=h
  by_cases ei:i=id
  ·subst ei
   rw [show (M.freeze i ver c).S i=.imm ver c from upd_same] at h1
   simp [Blk.own] at h1
  ·rw [show (M.freeze id ver c).S i=M.S i from upd_ne ei] at h1
   exact ⟨i,o,cap,h1,h2⟩
 refs cv v hr:=by
  obtain ⟨h1,h2⟩:=hr
  refine ⟨h1,?_⟩
  have other:∀i,i≠id->(M.freeze id ver c).S i=M.S i:=λi hi=>upd_ne hi
  have same:(M.freeze id ver c).S id=.imm ver c:=upd_same
  have hc:∀ver',contentB (.imm ver c) ver'=contentB (M.S id) ver':=λver'=>by rw [hk];rfl
  have hv:∀ver',verLe (M.S id) ver'->verLe (.imm ver c) ver':=λver' h=>by rw [hk] at h;exact h
  cases v<;>simp only [Mem.Ref1] at h2 ⊢
  ·rename_i i off
   refine ⟨h2.1,λhf=>?_⟩
   by_cases ei:i=id
   ·subst ei;rw [same] at hf;simp [Blk.fix] at hf
   ·rw [other i ei] at hf;exact h2.2 hf
  ·rename_i i ver' ix off
   obtain ⟨⟨hs,hvl⟩,h2⟩:=h2
   by_cases ei:i=id
   ·subst ei;rw [same];exact ⟨⟨hs,hv _ hvl⟩,λc' h=>h2 c' (by rw [<-hc];exact h)⟩
   ·rw [other i ei];exact ⟨⟨hs,hvl⟩,h2⟩
  ·rename_i i ver'
   obtain ⟨⟨hs,hvl⟩,h2⟩:=h2
   by_cases ei:i=id
   ·subst ei;rw [same];exact ⟨⟨hs,hv _ hvl⟩,λc' h=>h2 c' (by rw [<-hc];exact h)⟩
   ·rw [other i ei];exact ⟨⟨hs,hvl⟩,h2⟩
  ·rename_i i ver' lo n
   obtain ⟨⟨hs,hvl⟩,h2⟩:=h2
   by_cases ei:i=id
   ·subst ei;rw [same];exact ⟨⟨hs,hv _ hvl⟩,λc' h=>h2 c' (by rw [<-hc];exact h)⟩
   ·rw [other i ei];exact ⟨⟨hs,hvl⟩,h2⟩
theorem Qw0 {M:Mem} (hM:M.ok) {id ver:Nat} {g:Bool} {e:Nat} {c:V} (hk:M.S id=.arr ver g e c):(M.freeze id ver c).ok where
 blk i l h:=by
  have h:M.μ i=some l:=h
  by_cases ei:i=id
  ·subst ei
   rw [show (M.freeze i ver c).S i=.imm ver c from upd_same]
   have hB:=hM.blk i l h
   rw [hk] at hB
   obtain ⟨_,hB⟩:=hB
   have hx:∀v:V,isExact (unexact v)=false:=λv=>by cases v<;>rfl
   have hfu:∀v:V,flatV (unexact v)=flatV v:=λv=>by cases v<;>rfl
   cases l with
   |
    nil a=>
    refine ⟨0,(Qp hB.2).2,.slice a 0 0 (unexact c) [] (λ_=>Go.undef) (by rw [hfu];exact hB.2) (λ_=>rfl) (Nat.le_refl _) (λ_=>rfl) (λj hj=>by simp at hj) (λj hj=>by simp at hj) (λj hj=>by simp at hj)⟩
   |
    blk b o cap=>
    obtain ⟨n,fl,cur,fz,a1,rfl,a3,a4,a5,a6,a7,a8,a9,a10⟩:=hB
    have hl:=Qp a1
    refine ⟨n,hl.2,.slice (some ⟨b,0,none⟩) n cap (unexact c) fl (λj=>cur.getD j Go.undef) (by rw [hfu];exact a1) (λhh=>by rw [hx] at hh;simp at hh) a3 (by simp) (λj hj=>⟨_,rfl,λho=>ho.2 ⟨0,cap,h⟩,?_⟩) (λj hj=>(a10 j hj).2) (λj hj=>(Qgt hM hk).rep0 hM (a10 j hj).1)⟩
    have:j<cur.size:=by rw [a6];exact Nat.lt_of_lt_of_le (by omega) (Nat.mul_le_mul_right _ a3)
    show M.w.cell? _=_
    rw [Addr.add_lit,Nat.zero_add]
    simp [World.cell?,a5,Array.getD_eq_getD_getElem?,this]
  ·rw [show (M.freeze id ver c).S i=M.S i from upd_ne ei]
   refine Qe7 hM (Qgt hM hk) (hM.blk i l h) (λho b o cap he=>⟨rfl,?_⟩)
   subst he
   exact ⟨hM.own ⟨i,o,cap,ho,h⟩,λ⟨o',cap',h'⟩=>ei (hM.inj i id _ _ _ _ _ ho (by rw [hk];rfl) h h')⟩
 inj i i' b o o' cap cap' h1 h2 h3 h4:=by
  have key:∀j,((M.freeze id ver c).S j).own=true->j≠id/\(M.S j).own=true:=λj hj=>by
   by_cases ej:j=id
   ·subst ej;rw [show (M.freeze j ver c).S j=.imm ver c from upd_same] at hj;simp [Blk.own] at hj
   ·rw [show (M.freeze id ver c).S j=M.S j from upd_ne ej] at hj;exact ⟨ej,hj⟩
  exact hM.inj i i' b o o' cap cap' (key i h1).2 (key i' h2).2 h3 h4
 low b h:=hM.low b h.1
def Mem.is (M:Mem) (S:Store):Prop:=∀id,M.S id=S.getD id .dead
theorem Qdv {S S':Store} (h:∀id ver,contentOf S' id ver=contentOf S id ver) (v:V):immOf S' v=immOf S v:=by
 cases v<;>simp only [immOf,h]
structure Ye (M M':Mem) (S S':Store):Prop where
 step:Step M M'
 ok:M'.ok
 is:M'.is S'
 w:M'.w=M.w
 μ:M'.μ=M.μ
 len:S'.length=S.length
 content:∀id ver,contentOf S' id ver=contentOf S id ver
theorem Ye.refl {M:Mem} (hM:M.ok) {S:Store} (hi:M.is S):Ye M M S S:=⟨.refl M,hM,hi,rfl,rfl,rfl,λ_ _=>rfl⟩
theorem Ye.trans {M M' M'':Mem} {S S' S'':Store} (h:Ye M M' S S') (h':Ye M' M'' S' S''):Ye M M'' S S'':=
 ⟨h.step.trans h'.step,h'.ok,h'.is,h'.w.trans h.w,h'.μ.trans h.μ,h'.len.trans h.len,λid ver=>(h'.content id ver).trans (h.content id ver)⟩
theorem Qxo {M:Mem} (hM:M.ok) {S:Store} (hi:M.is S) (v:V):∃M',Ye M M' S (freezeOne S v):=by
 have key:∀i,∃M',Ye M M' S (match S.getD i .dead with | .arr ver _ _ c=>S.set i (.imm ver c)|_=>S):=by
  intro i
  split
  ·rename_i ver g e c hk
   have hk':=(hi i).trans hk
   refine ⟨M.freeze i ver c,Qgt hM hk',Qw0 hM hk',λid=>?_,rfl,rfl,by simp,λid ver'=>?_⟩
   ·rw [getD_set_store (Y8 hk (by simp))]
    split
    ·rename_i h;subst h;exact upd_same
    ·rename_i h;exact (upd_ne h).trans (hi id)
   ·unfold contentOf
    rw [getD_set_store (Y8 hk (by simp))]
    split
    ·rename_i h;subst h;rw [hk];rfl
    ·rfl
  ·exact ⟨M,.refl hM hi⟩
 cases v<;>first|exact ⟨M,.refl hM hi⟩|exact key _
theorem Qoe {M:Mem} (hM:M.ok):∀(cs:List V) {S:Store} {M:Mem},M.ok->M.is S->∃M',Ye M M' S (Qbi S cs)
 |[],S,M,hM,hi=>⟨M,.refl hM hi⟩
 |
  v::vs,S,M,hM,hi=>by
  obtain ⟨M1,h1⟩:=Qxo hM hi v
  obtain ⟨M2,h2⟩:=Qoe hM vs h1.ok h1.is
  exact ⟨M2,h1.trans h2⟩
theorem Qdh:∀(cs:List V) {S:Store} {M:Mem},M.ok->M.is S->∃M',Ye M M' S (Q9 S cs)
 |[],S,M,hM,hi=>⟨M,.refl hM hi⟩
 |
  v::vs,S,M,hM,hi=>by
  obtain ⟨M1,h1⟩:=Qoe hM (cellsOf v) hM hi
  obtain ⟨M2,h2⟩:=Qdh vs h1.ok h1.is
  exact ⟨M2,h1.trans h2⟩
def still (S:Store):V->Prop
 |.sref id _ | .sview id _ _ _=>∀ver g e c,S.getD id .dead≠.arr ver g e c
 |_=>True
theorem freezeOne_arr {S:Store} {v:V} {i ver:Nat} {g:Bool} {e:Nat} {c:V} (h:(freezeOne S v).getD i .dead=.arr ver g e c):S.getD i .dead=.arr ver g e c:=by
 have key:∀j,(match S.getD j .dead with | .arr ver _ _ c=>S.set j (.imm ver c)|_=>S).getD i .dead=.arr ver g e c->S.getD i .dead=.arr ver g e c:=by
  intro j h
  split at h
  ·rename_i hk
   rw [getD_set_store (Y8 hk (by simp))] at h
   split at h
   ·simp at h
   ·exact h
  ·exact h
 cases v<;>first|exact h|exact key _ h
theorem Qwf {S:Store} {u v:V} (h:still S u):still (freezeOne S v) u:=by
 cases u<;>simp only [still] at h ⊢<;>(intro ver g e c hk;exact h ver g e c (freezeOne_arr hk))
theorem Qq4 {S:Store} {v:V}:still (freezeOne S v) v:=by
 have key:∀i ver g e c,(match S.getD i .dead with | .arr ver _ _ c=>S.set i (.imm ver c)|_=>S).getD i .dead≠.arr ver g e c:=by
  intro i ver g e c h
  split at h
  ·rename_i hk
   rw [getD_set_store (Y8 hk (by simp)),if_pos rfl] at h
   simp at h
  ·rename_i hk;exact hk _ _ _ _ h
 cases v<;>simp only [still,freezeOne]<;>exact key _
theorem Qiy:∀(cs:List V) {S:Store} {u:V},still S u\/u∈cs->still (Qbi S cs) u
 |[],S,u,h=>h.elim id (λh=>by simp at h)
 |
  v::vs,S,u,h=>by
  refine Qiy vs ?_
  rcases h with h|h
  ·exact .inl (Qwf h)
  ·rcases List.mem_cons.1 h with rfl|h
   ·exact .inl Qq4
   ·exact .inr h
theorem Qc6:∀(vs:List V) {S:Store} {u:V},(still S u\/∃v∈vs,u∈cellsOf v)->still (Q9 S vs) u
 |[],S,u,h=>h.elim id (λ⟨v,h,_⟩=>by simp at h)
 |
  v::vs,S,u,h=>by
  refine Qc6 vs ?_
  rcases h with h|⟨w,hw,hu⟩
  ·exact .inl (Qiy _ (.inl h))
  ·rcases List.mem_cons.1 hw with rfl|hw
   ·exact .inl (Qiy _ (.inr hu))
   ·exact .inr ⟨w,hw,hu⟩
theorem Qx9 {S:Store} {id ver:Nat} {c:V} (h:contentOf S id ver=some c) (hc:contentVal c=true):immOf S (.sref id ver)=unexact c:=by
 simp only [immOf,h]
 cases c<;>simp [contentVal] at hc<;>rfl
theorem Qhd {M:Mem} (hM:M.ok) {S:Store} (hi:M.is S) {cv:Value} {v:V} (hr:Rep M cv v) (hs:still S v):Rep M cv (immOf S v):=by
 cases v<;>try exact hr
 ·rename_i id ver
  cases hc:contentOf S id ver with
  |none=>simp only [immOf,hc];exact .imm (.undef _)
  |
   some c=>
   have hc':contentB (M.S id) ver=some c:=by rw [hi id];exact hc
   have hblk:∃ver',M.S id=.imm ver' c:=by
    unfold contentB at hc'
    split at hc'
    ·rename_i h;rw [hi id] at h;exact (hs _ _ _ _ h).elim
    ·rename_i ver' c2 h
     split at hc'
     ·simp only [Zs] at hc';subst hc';exact ⟨ver',h⟩
     ·simp at hc'
    ·simp at hc'
   obtain ⟨ver',hk⟩:=hblk
   obtain ⟨_,_,hp⟩:=Jo hr
   obtain ⟨loc,n,hμ,hn,rfl⟩:=hp c hc'
   have hB:=hM.blk id loc hμ
   rw [hk] at hB
   obtain ⟨n',hn',hB⟩:=hB
   rw [hn] at hn';simp only [Zs] at hn';subst hn'
   have hcv:contentVal c=true:=by cases c<;>simp [lenV] at hn<;>rfl
   rw [Qx9 hc hcv]
   exact .imm hB
 ·rename_i id ver lo k
  cases hc:contentOf S id ver with
  |none=>simp only [immOf,hc];exact .imm (.undef _)
  |
   some c=>
   have hc':contentB (M.S id) ver=some c:=by rw [hi id];exact hc
   have hblk:∃ver',M.S id=.imm ver' c:=by
    unfold contentB at hc'
    split at hc'
    ·rename_i h;rw [hi id] at h;exact (hs _ _ _ _ h).elim
    ·rename_i ver' c2 h
     split at hc'
     ·simp only [Zs] at hc';subst hc';exact ⟨ver',h⟩
     ·simp at hc'
    ·simp at hc'
   obtain ⟨ver',hk⟩:=hblk
   obtain ⟨_,_,hp⟩:=Jy hr
   obtain ⟨loc,m,a,cap',hμ,hm,hle,hnc,rfl,hna,hpos⟩:=hp c hc'
   have hB:=hM.blk id loc hμ
   rw [hk] at hB
   obtain ⟨n',hn',hB⟩:=hB
   rw [hm] at hn';simp only [Zs] at hn';subst hn'
   have hcv:contentVal (unexact c)=true:=by cases c<;>simp [lenV] at hm<;>rfl
   obtain ⟨A,n2,cap2,fl,cf,he,hf,_,hle2,hA,hcell,hone,hrr⟩:=Wz (M:=M) hcv (.imm hB)
   have hf':flatV c=some (n2,fl):=by rw [<-hf];cases c<;>rfl
   have hl:=Qp hf'
   have hn2:n2=m:=by have:=hl.2;rw [hm] at this;simpa using this.symm
   subst hn2
   simp only [immOf,hc]
   have hex:isExact (subV lo k c)=false:=by cases c<;>simp [lenV] at hm<;>rfl
   refine .imm (Qkh (A:=A) hl.1 hle hcell hone hrr (Qmb hf' hle) hnc (λh=>by rw [hex] at h;simp at h) (λh=>(hna h).1) (λhk=>?_))
   obtain ⟨b,o,cap3,rfl,rfl⟩:=hpos hk
   simp only [Wa,Value.slice.injEq] at he
   rw [<-he.1,Option.map_some,Addr.add_lit]
theorem Qg0 {M:Mem} (hM:M.ok) {S:Store} (hi:M.is S) {cv:Value} {v:V} (hr:Rep M cv v) (hs:∀u∈cellsOf v,still S u):Rep M cv (immDeep S v):=by
 by_cases ha:∃cs,v=.agg cs
 ·obtain ⟨cs,rfl⟩:=ha
  obtain ⟨cvs,rfl,hl,ho,hrr⟩:=Wn hr
  simp only [immDeep]
  refine .agg cvs _ (by simpa using hl) (λj hj=>ho j (by simpa using hj)) (λj hj=>?_)
  rw [List.getElem_map]
  exact Qhd hM hi (hrr j (by simpa using hj)) (hs _ (List.getElem_mem _))
 ·have e1:immDeep S v=immOf S v:=by cases v<;>first|rfl|exact absurd ⟨_,rfl⟩ ha
  have e2:cellsOf v=[v]:=by cases v<;>first|rfl|exact absurd ⟨_,rfl⟩ ha
  rw [e1]
  exact Qhd hM hi hr (hs v (by rw [e2];simp))
structure Now (M:Mem) (S:Store):Prop where
 ok:M.ok
 is:M.is S
 fresh:∀id,S.length<=id->M.μ id=none
theorem Post.now {M M':Mem} {S S':Store} {wr:List Nat} (h:Now M S) (hp:Post M M' S S' wr):Now M' S' where
 ok:=hp.ok
 is id:=by
  by_cases hw:id∈wr
  ·exact hp.wrS id hw
  ·rw [hp.keepM id hw,hp.keepS id hw];exact h.is id
 fresh id hid:=by
  have hl:=hp.len
  by_cases e:id=S.length
  ·subst e
   cases hμ:M'.μ S.length with
   |none=>rfl
   |
    some l=>
    have:=hp.μ' (by rw [hμ];rfl)
    rcases this with h1|h1
    ·rw [h.fresh _ (Nat.le_refl _)] at h1;simp at h1
    ·omega
  ·have:=hp.μ id e
   rw [h.fresh id (by omega)] at this
   simpa using this
theorem Ye.now {M M':Mem} {S S':Store} (h:Now M S) (hf:Ye M M' S S'):Now M' S':=
 ⟨hf.ok,hf.is,λid hid=>by rw [hf.μ];exact h.fresh id (by rw [<-hf.len];exact hid)⟩
section
variable {P:Program} {C:Ctx} (hC:Wf P C) {a:Act} {M:Mem} {S:Store} {env:Env} {v:V} {S':Store} {next:Act->World->Prop} {Q:Exit->Act->World->Prop} {I:Inl (V×Store)}
def Qh5 (a:Act) (M:Mem) (S:Store) (dst:Option Nat) (v:V) (S':Store) (next:Act->World->Prop):Prop:=
 ∀cv M',Step M M'->Now M' S'->Rep M' cv v->S.length<=S'.length->next (a.put dst cv) M'.w
include hC in
theorem Qlo (o:Oper) (hM:M.ok) (hq:S.length<S'.length->M.μ S.length=none) (hρ:∀ty x,x∈o.op.operands->Rep M (a.eval x) (C.opv env ty x)) (hA:∀ty x,x∈o.op.operands->∀id∈refs1 (C.opv env ty x),M.S id=S.getD id .dead)
  (hinl:isInl C o env=false) (h:C.evOp I true o env S K0=some (v,S')) (hn:Next C o a M S env v S' next):o.wp P a M.w next Q:=by
 by_cases hc:∃c,o.op=.call c
 ·obtain ⟨c,hop⟩:=hc
  exact Qwu hC o hop hM hq hρ hA hinl h hn
 ·exact Qu6 hC o hM hq hρ hA (λc e=>hc ⟨c,e⟩) h hn
include hC in
theorem Qrl (o:Oper) (hN:Now M S) (he:Qv M a.tmps env) (hinl:isInl C o env=false) (h:C.evOp I false o env S K0=some (v,S')) (hn:Qh5 a M S o.dst v S' next):o.wp P a M.w next Q:=by
 have hρ:∀ty x,Rep M (a.eval x) (C.opv env ty x):=λty x=>Qi1 C he ty x
 have plain:C.evOp I true o env S K0=some (v,S')->o.wp P a M.w next Q:=λh'=>
  Qlo hC o hN.ok (λ_=>hN.fresh _ (Nat.le_refl _)) (λty x _=>hρ ty x) (λ_ _ _ id _=>hN.is id) hinl h' λcv M' wr hr hp _=>hn cv M' hp.step (hp.now hN) hr hp.len
 obtain ⟨dst,op,type,pos,after,guard⟩:=o
 cases op<;>try exact plain h
 case next it b=>cases b<;>exact plain h
 case buildSlice t len parts=>
  simp only [Ctx.evOp] at h
  split at h
  ·rename_i hnr
   refine plain ?_
   simp only [Ctx.evOp]
   rw [if_pos hnr];exact h
  ·simp only [Bool.false_eq_true,if_false] at h
   split at h
   case h_2=>simp at h
   rename_i w hw
   obtain ⟨M1,hf⟩:=Qdh (parts.toList.map λp=>C.opv env (C.partType t p.1) p.2) hN.ok hN.is
   have hN1:=hf.now hN
   have hst:∀u,(∃x∈(parts.toList.map λp=>C.opv env (C.partType t p.1) p.2),u∈cellsOf x)->still (Q9 S (parts.toList.map λp=>C.opv env (C.partType t p.1) p.2)) u:=λu hu=>Qc6 _ (.inr hu)
   obtain ⟨cv,w',hrun,hg,hr⟩:=Qf9 (M:=M1) hC.tab hN1.ok (qs:=parts.map λ(i,x)=>(i,a.eval x)) hw (by simp) (λj hj hj'=>by
    have hjp:j<parts.toList.length:=by simpa using hj
    refine ⟨by simp,?_⟩
    have h1:=hf.step.rep hN.ok (hρ (C.partType t (parts.toList[j]).1) (parts.toList[j]).2)
    have h2:=Qg0 hN1.ok hN1.is h1 (λu hu=>hst u ⟨_,List.mem_map_of_mem (List.getElem_mem hjp),hu⟩)
    have h3:immDeep (Q9 S (parts.toList.map λp=>C.opv env (C.partType t p.1) p.2)) (C.opv env (C.partType t (parts.toList[j]).1) (parts.toList[j]).2)=immDeep S (C.opv env (C.partType t (parts.toList[j]).1) (parts.toList[j]).2):=by
     have hh:=Qdv hf.content
     unfold immDeep
     split
     ·congr 1;exact List.map_congr_left λu _=>hh u
     ·exact hh _
    rw [h3] at h2
    simpa using h2)
   simp only [K0,Zs,Prod.mk.injEq] at h
   obtain ⟨rfl,rfl⟩:=h
   have hp:=post_world hN1.ok (Q9 S (parts.toList.map λp=>C.opv env (C.partType t p.1) p.2)) hg
   refine Yk (w':=w') ?_ (hn cv {M1 with w:=w'} (hf.step.trans hp.step) (hp.now hN1) (.imm hr) (by rw [hf.len];exact Nat.le_refl _))
   rw [hf.w] at hrun
   simp only [execOp,Sem.run_bind,hrun,Result.andThen_ok,Sem.run_pure]
 case call c=>
  cases hcal:c.callee with
  |invoke r m=>refine plain ?_;simp only [Ctx.evOp,hcal] at h ⊢;exact h
  |builtin b=>refine plain ?_;simp only [Ctx.evOp,hcal] at h ⊢;exact h
  |
   value f=>
   simp only [Ctx.evOp,hcal] at h
   unfold Ctx.callV at h
   split at h
   case h_2=>simp at h
   rename_i g caps hfv
   have hng:C.inPl g=none:=by
    simp only [isInl,hcal,hfv] at hinl
    simpa using hinl
   simp only [hng] at h
   cases hclone:C.clone g with
   |
    some e=>
    refine plain ?_
    simp only [Ctx.evOp,hcal]
    unfold Ctx.callV
    simp only [hfv,hng,hclone] at h ⊢;exact h
   |
    none=>
    simp only [hclone] at h
    split at h
    case h_2=>simp at h
    rename_i p hp
    split at h
    case isFalse=>simp at h
    rename_i hc
    simp only [Zo,Bool.true_or,Bool.true_and] at hc
    change ((argV C env c++caps).map (immDeep S)).all immV=true at hc
    change C.call g ((argV C env c++caps).map (immDeep S))=some p at hp
    change (p.m.bind λr=>K0 (p.enc r) (Q9 S (argV C env c++caps)))=some (v,S') at h
    simp only [Option.bind_eq_some_iff] at h
    obtain ⟨r,hr,hK⟩:=h
    simp only [K0,Zs,Prod.mk.injEq] at hK
    obtain ⟨rfl,rfl⟩:=hK
    have hf:=hρ 0 f
    rw [hfv] at hf
    obtain ⟨cvs,e1,hcl,hcr⟩:=J3 hf
    have hall:∀j (hj:j<(argV C env c++caps).length),Rep M ((c.args.map a.eval++cvs).getD j Go.undef) (argV C env c++caps)[j]:=by
     intro j hj
     by_cases h1:j<(argV C env c).length
     ·rw [List.getElem_append_left h1]
      have:=Qax (λty x _=>hρ ty x) j h1
      rw [Wm] at h1
      simpa [Array.getD_eq_getD_getElem?,Array.getElem?_append_left (show j<(c.args.map a.eval).size by simpa using h1)] using this
     ·rw [List.getElem_append_right (by omega)]
      have:=hcr (j-(argV C env c).length) (by simp at hj;omega)
      rw [Wm] at h1
      have e2:(c.args.map a.eval++cvs).getD j Go.undef=cvs.getD (j-(argV C env c).length) Go.undef:=by
       rw [Wm]
       simp only [Array.getD_eq_getD_getElem?]
       rw [Array.getElem?_append_right (by simpa using h1)];simp
      rw [e2];exact this
    obtain ⟨M1,hfz⟩:=Qdh (argV C env c++caps) hN.ok hN.is
    have hN1:=hfz.now hN
    have hs:=hC.call g _ p hng hclone hp M1.O M1.w (c.args.map a.eval++cvs) r hr (by simp [Wm,hcl]) (λj hj=>by
     have hj':j<(argV C env c++caps).length:=by simpa using hj
     have h1:=hfz.step.rep hN.ok (hall j hj')
     have h2:=Qg0 hN1.ok hN1.is h1 (λu hu=>Qc6 _ (.inr ⟨_,List.getElem_mem hj',hu⟩))
     have h3:immDeep (Q9 S (argV C env c++caps)) (argV C env c++caps)[j]=immDeep S (argV C env c++caps)[j]:=by
      have hh:=Qdv hfz.content
      unfold immDeep
      split
      ·congr 1;exact List.map_congr_left λu _=>hh u
      ·exact hh _
     rw [h3] at h2
     rw [List.getElem_map]
     exact Qby h2 (by
      have:=List.all_eq_true.1 hc _ (List.getElem_mem hj)
      rwa [List.getElem_map] at this)) hN1.ok.low
    rw [hfz.w] at hs
    refine Qd5 (o:=⟨dst,.call c,type,pos,after,guard⟩) rfl hcal e1 hs λcv w' ⟨hg,hr0⟩=>?_
    have hg':M1.w.grownBy w' none:=by rw [hfz.w];exact hg
    have hp:=post_world hN1.ok (Q9 S (argV C env c++caps)) hg'
    exact hn cv {M1 with w:=w'} (hfz.step.trans hp.step) (hp.now hN1) (.imm hr0) (by rw [hfz.len];exact Nat.le_refl _)
end
abbrev InlP:=∀R:Type,Inl R
structure InlOK (P:Program) (C:Ctx) (I:InlP):Prop where
 nat:∀(R:Type) (f:Nat) (args:List V) (S:Store) (K:V->Store->Option R),I R f args S K=Bd (I (V×Store) f args S K0) K
 sound:∀(f:Nat) (args:List V) (S:Store) (v:V) (S':Store) (M:Mem) (cargs:Array Value),I (V×Store) f args S K0=some (v,S')->Now M S->cargs.size=args.length ->
  (∀j (h:j<args.length),Rep M (cargs.getD j Go.undef) args[j])->CallR P f cargs M.w λcv w'=>∃M':Mem,M'.w=w'/\Step M M'/\Now M' S'/\Rep M' cv v/\S.length<=S'.length
section
variable {P:Program} {C:Ctx} {a:Act} {M:Mem} {S:Store} {env:Env} {v:V} {S':Store} {next:Act->World->Prop} {Q:Exit->Act->World->Prop} {I:InlP}
theorem Ql1 {o:Oper} (h:isInl C o env=true):∃c f g caps,o.op=.call c/\c.callee=.value f/\C.opv env 0 f=.func g caps/\(C.inPl g).isSome=true:=by
 unfold isInl at h
 split at h
 case h_2=>simp at h
 rename_i c hop
 split at h
 case h_2=>simp at h
 rename_i f hcal
 split at h
 case h_2=>simp at h
 rename_i g caps hfv
 exact ⟨c,f,g,caps,hop,hcal,hfv,h⟩
theorem Qga {R:Type} {I:Inl R} {b:Bool} {o:Oper} {c:Call} {f:Operand} {g:Nat} {caps:List V} (hop:o.op=.call c) (hcal:c.callee=.value f) (hfv:C.opv env 0 f=.func g caps) (hg:(C.inPl g).isSome=true) (K:V->Store->Option R) :
  C.evOp I b o env S K=I g (argV C env c++caps) S K:=by
 obtain ⟨fn,hfn⟩:=Option.isSome_iff_exists.1 hg
 unfold Ctx.evOp
 simp only [hop,hcal]
 unfold Ctx.callV
 simp only [hfv,hfn]
 rfl
theorem Qub {c:Call} (hρ:∀ty x,x∈c.operands->Rep M (a.eval x) (C.opv env ty x)) {cvs:Array Value} {caps:List V} (hcr:∀j (h:j<caps.length),Rep M (cvs.getD j Go.undef) caps[j]) :
  ∀j (hj:j<(argV C env c++caps).length),Rep M ((c.args.map a.eval++cvs).getD j Go.undef) (argV C env c++caps)[j]:=by
 intro j hj
 by_cases h1:j<(argV C env c).length
 ·rw [List.getElem_append_left h1]
  have:=Qax hρ j h1
  rw [Wm] at h1
  simpa [Array.getD_eq_getD_getElem?,Array.getElem?_append_left (show j<(c.args.map a.eval).size by simpa using h1)] using this
 ·rw [List.getElem_append_right (by omega)]
  have:=hcr (j-(argV C env c).length) (by simp at hj;omega)
  rw [Wm] at h1
  have e2:(c.args.map a.eval++cvs).getD j Go.undef=cvs.getD (j-(argV C env c).length) Go.undef:=by
   rw [Wm]
   simp only [Array.getD_eq_getD_getElem?]
   rw [Array.getElem?_append_right (by simpa using h1)];simp
  rw [e2];exact this
theorem Qba (hI:InlOK P C I) {R:Type} (b:Bool) (o:Oper) (env:Env) (S:Store) (K:V->Store->Option R):C.evOp (I R) b o env S K=Bd (C.evOp (I _) b o env S K0) K:=by
 cases h:isInl C o env with
 |false=>exact Qwx C (I R) (I _) b o env S K h
 |
  true=>
  obtain ⟨c,f,g,caps,hop,hcal,hfv,hg⟩:=Ql1 h
  rw [Qga hop hcal hfv hg,Qga hop hcal hfv hg]
  exact hI.nat R g _ S K
theorem Qj0 (hI:InlOK P C I) (b:Bool) (o:Oper) (hN:Now M S) (he:∀ty x,x∈o.op.operands->Rep M (a.eval x) (C.opv env ty x)) (hinl:isInl C o env=true) (h:C.evOp (I _) b o env S K0=some (v,S')) (hn:Qh5 a M S o.dst v S' next):o.wp P a M.w next Q:=by
 obtain ⟨c,f,g,caps,hop,hcal,hfv,hg⟩:=Ql1 hinl
 rw [Qga hop hcal hfv hg] at h
 have hρ:∀ty x,x∈c.operands->Rep M (a.eval x) (C.opv env ty x):=λty x hx=>he ty x (by rw [hop];exact hx)
 have hf:=hρ 0 f (by simp [Call.operands,hcal])
 rw [hfv] at hf
 obtain ⟨cvs,e1,hcl,hcr⟩:=J3 hf
 have hs:=hI.sound g _ S v S' M (c.args.map a.eval++cvs) h hN (by simp [Wm,hcl]) (Qub hρ hcr)
 exact Qd5 hop hcal e1 hs λcv w' ⟨M',hw,hst,hN',hr,hl⟩=>by subst hw;exact hn cv M' hst hN' hr hl
theorem Qt9 (hC:Wf P C) (hI:InlOK P C I) (o:Oper) (hN:Now M S) (he:Qv M a.tmps env) (h:C.evOp (I _) false o env S K0=some (v,S')) (hn:Qh5 a M S o.dst v S' next):o.wp P a M.w next Q:=by
 cases hinl:isInl C o env with
 |false=>exact Qrl hC o hN he hinl h hn
 |true=>exact Qj0 hI false o hN (λty x _=>Qi1 C he ty x) hinl h hn
theorem Qmi {env:Env} {g:Nat} {v:V} (h:env.getD g .undef=v) (hv:v≠.undef):env.set g v=env:=by
 have hg:g<env.length:=by
  by_cases hg:g<env.length
  ·exact hg
  ·rw [Zl,List.getElem?_eq_none (by omega)] at h
   exact (hv h.symm).elim
 rw [Zl,List.getElem?_eq_getElem hg] at h
 simp only [Option.getD_some] at h
 rw [<-h];exact List.set_getElem_self hg
theorem Qbz (a:Act) (dst:Option Tmp) (v:Value):(a.put dst v).defers=a.defers:=by cases dst<;>rfl
theorem Qs8 {ops:Array Oper} {j g:Nat} (hg:guardSlot ops j=some g) {tmps:Array Value} {b:Bool} (h:tmps.getD g Go.undef=.bool b):yielded ops tmps j=some b:=by
 have h':tmps[g]? = some (.bool b):=by
  rw [Array.getD_eq_getD_getElem?] at h
  cases ht:tmps[g]? with
  |none=>rw [ht] at h;simp [Go.undef] at h
  |some x=>rw [ht] at h;simpa using h
 unfold yielded
 unfold guardSlot at hg
 simp only [hg,Zb,h']
theorem Qsy {ops:Array Oper} {j g:Nat} (hg:guardSlot ops j=some g) {tmps:Array Value} {cvs:Array Value} (h:tmps.getD g Go.undef=.tuple cvs):yielded ops tmps j=none:=by
 unfold yielded
 unfold guardSlot at hg
 simp only [hg,Zb]
 rw [Array.getD_eq_getD_getElem?] at h
 cases ht:tmps[g]? with
 |none=>rfl
 |some x=>rw [ht] at h;simp at h;subst h;rfl
def guardV (ops:Array Oper) (o:Oper) (env:Env):Option Bool:=
 match o.guard with
 |none=>some true
 |
  some (j,want)=>match guardSlot ops j with
  |none=>none
  |
   some g=>match env.getD g .undef with
   |.bool b=>some (b == want)
   |.tup []=>some false
   |_=>none
theorem Qij {ops:Array Oper} {o:Oper} {b:Bool} (h:guardV ops o env=some b) (he:∀j want g,o.guard=some (j,want)->guardSlot ops j=some g->Rep M (a.tmps.getD g Go.undef) (env.getD g .undef)):Region.wanted o (yielded ops a.tmps)=b:=by
 unfold guardV at h
 unfold Region.wanted
 split at h
 ·rename_i hg;rw [hg];simpa using h
 ·rename_i j want hg
  rw [hg]
  split at h
  ·simp at h
  ·rename_i g hs
   have hr:=he j want g hg hs
   split at h
   ·rename_i b' hb
    rw [hb] at hr
    simp only [Qs8 hs (Qaa hr)]
    simp only [Zs] at h
    rw [<-h];cases b'<;>cases want<;>rfl
   ·rename_i hb
    rw [hb] at hr
    obtain ⟨cvs,e,_⟩:=Qbg hr
    simp only [Qsy hs e]
    simpa using h
   ·simp at h
theorem Qhi {R:Type} (I:Inl R) (b:Bool) (ops:Array Oper) (o:Oper) (rest:List Oper) (env:Env) (S:Store) (K:Env->Store->Option R) :
  C.evOps I b ops (o::rest) env S K=match guardV ops o env with
   |some true=>C.evOp I b o env S λv S'=>C.evOps I b ops rest (put env o.dst v) S' K
   |some false=>C.evOps I b ops rest (put env o.dst (.tup [])) S K
   |none=>none:=by
 cases hg:o.guard with
 |none=>simp only [Ctx.evOps,guardV,hg]
 |
  some p=>
  obtain ⟨j,want⟩:=p
  cases hs:guardSlot ops j with
  |none=>simp only [Ctx.evOps,guardV,hg,hs]
  |
   some g=>
   cases hb:env.getD g .undef<;>try (simp only [Ctx.evOps,guardV,hg,hs,hb];done)
   ·rename_i b'
    have hset:=Qmi hb (by simp)
    cases b'<;>cases want<;>simp only [Ctx.evOps,guardV,hg,hs,hb,Zd,Zc,hset]<;>rfl
   ·rename_i vs
    cases vs<;>simp only [Ctx.evOps,guardV,hg,hs,hb]
theorem Qco (hI:InlOK P C I) {R:Type} (b:Bool) (ops:Array Oper):∀(rest:List Oper) (env:Env) (S:Store) (K:Env->Store->Option R),
  C.evOps (I R) b ops rest env S K=(C.evOps (I (Env×Store)) b ops rest env S λe s=>some (e,s)).bind λp=>K p.1 p.2
 |[],env,S,K=>rfl
 |
  o::rest,env,S,K=>by
  rw [Qhi,Qhi]
  split
  ·rw [Qba hI b o env S,Qba hI b o env S (λv S'=>C.evOps (I (Env×Store)) b ops rest (put env o.dst v) S' λe s=>some (e,s))]
   cases C.evOp (I (V×Store)) b o env S K0 with
   |none=>rfl
   |some p=>exact Qco hI b ops rest _ _ K
  ·exact Qco hI b ops rest _ _ K
  ·rfl
theorem Qg5 (hC:Wf P C) (hI:InlOK P C I) {ops:Array Oper} {env':Env} {S':Store}:∀(rest:List Oper) (l:List Nat) (env:Env) (S:Store) (a:Act) (M:Mem),l.map (ops[·]?)=rest.map some->Now M S->Qv M a.tmps env ->
  C.evOps (I (Env×Store)) false ops rest env S (λe s=>some (e,s))=some (env',S') ->
  (∀a' M',Step M M'->Now M' S'->Qv M' a'.tmps env'->a'.defers=a.defers->S.length<=S'.length->Q .normal a' M'.w)->wpOps P ops Q l a M.w
 |
  [],[],env,S,a,M,hl,hN,he,h,hQ=>by
  simp only [Ctx.evOps,Zs,Prod.mk.injEq] at h
  obtain ⟨rfl,rfl⟩:=h
  exact hQ a M (.refl M) hN he rfl (Nat.le_refl _)
 |
  o::rest,i::l,env,S,a,M,hl,hN,he,h,hQ=>by
  simp only [List.map_cons,List.cons.injEq] at hl
  obtain ⟨hi,hl⟩:=hl
  rw [Qhi] at h
  simp only [wpOps,hi]
  split at h
  ·rename_i hg
   rw [if_pos (Qij hg λj want g _ _=>he.get g)]
   refine .inl ?_
   rw [Qba hI] at h
   simp only [Bd,Option.bind_eq_some_iff] at h
   obtain ⟨⟨v,S1⟩,h1,h2⟩:=h
   refine Qt9 hC hI o hN he h1 λcv M1 hst hN1 hr hlen=>?_
   exact Qg5 hC hI rest l _ S1 _ M1 hl hN1 ((hst.env hN.ok he).put o.dst hr) h2 λa' M' hst' hN' he' hd hlen'=>hQ a' M' (hst.trans hst') hN' he' (by rw [hd,Qbz]) (by omega)
  ·rename_i hg
   rw [if_neg (by rw [Qij hg λj want g _ _=>he.get g];simp)]
   exact Qg5 hC hI rest l _ S _ M hl hN (he.put o.dst (.imm (.tup #[] [] rfl (λj hj=>by simp at hj)))) h λa' M' hst' hN' he' hd hlen'=>hQ a' M' hst' hN' he' (by rw [hd,Qbz]) hlen'
  ·simp at h
 |[],_::_,_,_,_,_,hl,_,_,_,_=>by simp at hl
 |_::_,[],_,_,_,_,hl,_,_,_,_=>by simp at hl
end
section
variable {P:Program} {C:Ctx} {a:Act} {M:Mem} {S:Store} {env:Env} {v:V} {S':Store} {I:InlP}
def Keeps (W:List Nat) (S S':Store):Prop:=S.length<=S'.length/\(∀id,id∉W->S'.getD id .dead=S.getD id .dead)/\(S.length<S'.length->S.length∈W)
theorem Keeps.refl {W:List Nat} {S:Store}:Keeps W S S:=⟨Nat.le_refl _,λ_ _=>rfl,λh=>absurd h (Nat.lt_irrefl _)⟩
theorem Keeps.push {W:List Nat} {S:Store} {b:Blk} (h:S.length∈W):Keeps W S (S++[b]):=
 ⟨by simp,λid hid=>by
  have:id≠S.length:=λe=>hid (e▸h)
  simp only [Zl]
  by_cases hlt:id<S.length
  ·rw [List.getElem?_append_left hlt]
  ·rw [List.getElem?_eq_none (by simp;omega),List.getElem?_eq_none (by omega)],λ_=>h⟩
theorem Keeps.set {W:List Nat} {S:Store} {i:Nat} {b:Blk} (h:i∈W):Keeps W S (S.set i b):=
 ⟨by simp,λid hid=>by
  have:i≠id:=λe=>hid (e▸h)
  simp only [Zl,List.getElem?_set_ne this],λh=>by simp at h⟩
theorem Qbv {v' v:V} {S1 S':Store} (h:K0 v' S1=some (v,S')):S1=S':=by
 simp only [K0,Zs,Prod.mk.injEq] at h;exact h.2
theorem Qxy {C:Ctx} {t:Nat} {S:Store} {x v:V} {S':Store} (h:C.storeV t S x v some=some S'):Keeps (refs1 x) S S':=by
 unfold Ctx.storeV at h
 repeat' split at h
 all_goals first|(simp at h;done)|(simp only [Zs] at h;subst h;exact Keeps.set (by simp [refs1]))
theorem Qtv {C:Ctx} {t:Nat} {S:Store} {x y:V} {v:V} {S':Store} (h:C.appendV t S x y K0=some (v,S')):Keeps (refs1 x++[S.length]) S S':=by
 unfold Ctx.appendV at h
 repeat' split at h
 all_goals try (simp at h;done)
 ·obtain rfl:=Qbv h;exact Keeps.set (by simp [refs1])
 ·obtain rfl:=Qbv h;exact Keeps.push (by simp)
 ·cases hn:isNil x<;>rw [hn] at h<;>simp only [Zd,Zc] at h
  ·cases hc:isCons x<;>rw [hc] at h<;>simp only [Zd,Zc] at h
   ·simp at h
   ·obtain rfl:=Qbv h;exact .refl
  ·obtain rfl:=Qbv h;exact Keeps.push (by simp)
theorem Je {α:Type} {f:Option α} {g:α->V×Store} {v:V} {S':Store} (h:(f.bind λx=>K0 (g x).1 (g x).2)=some (v,S')):∃x,f=some x/\(g x).2=S':=by
 cases f with
 |none=>simp at h
 |some x=>exact ⟨x,rfl,Qbv h⟩
theorem keeps_k0 {W:List Nat} {S S1 S':Store} {v' v:V} (h:K0 v' S1=some (v,S')) (hk:Keeps W S S1):Keeps W S S':=by
 obtain rfl:=Qbv h;exact hk
theorem Qfm (o:Oper) (h:C.evOp (I _) true o env S K0=some (v,S')) (hinl:isInl C o env=false):Keeps (opW C o env S) S S':=by
 obtain ⟨dst,op,type,pos,after,guard⟩:=o
 unfold Ctx.evOp at h
 cases op<;>simp only at h<;>try (simp at h;done)
 case move x=>exact keeps_k0 h .refl
 case assign x=>
  split at h
  ·rename_i hnil
   split at h
   ·simp at h
   ·exact keeps_k0 h (.push (by simp [opW,hnil]))
  ·exact keeps_k0 h .refl
 case pick c x y=>
  split at h
  case h_2=>simp at h
  split at h
  ·exact keeps_k0 h .refl
  ·rename_i b _ _ _ _
   cases b<;>exact keeps_k0 h .refl
 case alloc e=>
  split at h
  case h_2=>simp at h
  exact keeps_k0 h (.push (by simp [opW]))
 case box e x=>
  split at h
  case isFalse=>simp at h
  exact keeps_k0 h (.push (by simp [opW]))
 case build t parts=>
  split at h
  case h_2=>simp at h
  exact keeps_k0 h .refl
 case buildSlice t len parts=>
  split at h
  case isFalse=>simp at h
  split at h
  case h_2=>simp at h
  exact keeps_k0 h .refl
 case load t x=>
  rw [Qbj] at h
  obtain ⟨x,_,h⟩:=Je (g:=λv=>(v,S)) h
  obtain rfl:=h;exact .refl
 case store t x y=>
  rw [Qhf] at h
  obtain ⟨S1,h1,h⟩:=Je (g:=λs=>(.tup [],s)) h
  obtain rfl:=h
  have:=Qxy h1
  exact ⟨this.1,λid hid=>this.2.1 id (by simpa [opW] using hid),λhl=>by simpa [opW] using this.2.2 hl⟩
 case nilCheck x=>
  repeat' split at h
  all_goals first|(simp at h;done)|exact keeps_k0 h .refl
 case binOp op t x y z=>
  rw [Qg8] at h
  obtain ⟨x,_,h⟩:=Je (g:=λv=>(v,S)) h
  obtain rfl:=h;exact .refl
 case unOp op t x=>
  repeat' split at h
  all_goals first|(simp at h;done)|exact keeps_k0 h .refl
 case convert src dst' x=>
  unfold Ctx.convertV at h
  repeat' split at h
  all_goals first|(simp at h;done)|exact keeps_k0 h .refl
 case makeFunc fn first captured=>
  repeat' split at h
  all_goals first|(simp at h;done)|exact keeps_k0 h .refl
 case makeInterface t x=>
  repeat' split at h
  all_goals first|(simp at h;done)|exact keeps_k0 h .refl
 case makeSlice t l c=>
  unfold Ctx.makeSliceV at h
  repeat' split at h
  all_goals first|(simp at h;done)|exact keeps_k0 h (.push (by simp [opW]))
 case slice t x lo hi mx=>
  split at h
  ·split at h
   ·rw [Qjh] at h
    obtain ⟨x,_,h⟩:=Je (g:=λv=>(v,S)) h
    obtain rfl:=h;exact .refl
   ·simp at h
  ·rw [Qia] at h
   obtain ⟨x,_,h⟩:=Je (g:=λv=>(v,S)) h
   obtain rfl:=h;exact .refl
 case fieldAddr t x f=>
  repeat' split at h
  all_goals first|(simp at h;done)|exact keeps_k0 h .refl
 case field t x f=>
  repeat' split at h
  all_goals first|(simp at h;done)|exact keeps_k0 h .refl
 case indexAddr t x ix=>
  rw [Qgo] at h
  obtain ⟨x,_,h⟩:=Je (g:=λv=>(v,S)) h
  obtain rfl:=h;exact .refl
 case index t x ix=>
  repeat' split at h
  all_goals first|(simp at h;done)|exact keeps_k0 h .refl|skip
  rw [Qbd] at h
  obtain ⟨x,_,h⟩:=Je (g:=λv=>(v,S)) h
  obtain rfl:=h;exact .refl
 case range t x=>
  repeat' split at h
  all_goals first|(simp at h;done)|exact keeps_k0 h (.push (by simp [opW]))
 case next it b=>
  cases b<;>simp only at h<;>try (simp at h;done)
  split at h
  case h_2=>simp at h
  rename_i id he
  repeat' split at h
  all_goals first|(simp at h;done)|exact keeps_k0 h (.set (by simp [opW,he,refs1]))|exact keeps_k0 h .refl
 case extract x i=>
  repeat' split at h
  all_goals first|(simp at h;done)|exact keeps_k0 h .refl
 case call c=>
  cases hcal:c.callee with
  |
   invoke r m=>
   simp only [hcal] at h
   unfold Ctx.invokeV at h
   repeat' split at h
   all_goals try (simp at h;done)
   rename_i p _ _
   obtain ⟨x,_,h⟩:=Je (g:=λr=>(p.enc r,S)) h
   obtain rfl:=h;exact .refl
  |
   value f=>
   simp only [hcal] at h
   unfold Ctx.callV at h
   split at h
   case h_2=>simp at h
   rename_i g caps hfv
   have hng:C.inPl g=none:=by
    simp only [isInl,hcal,hfv] at hinl
    simpa using hinl
   simp only [hng] at h
   cases hclone:C.clone g with
   |
    some e=>
    simp only [hclone] at h
    repeat' split at h
    all_goals first|(simp at h;done)|exact keeps_k0 h (.push (by simp [opW,hcal,hfv,hclone]))
   |
    none=>
    simp only [hclone] at h
    split at h
    case h_2=>simp at h
    split at h
    case isFalse=>simp at h
    rename_i p hp hc
    simp only [Zn,Bool.false_or,Bool.and_eq_true] at hc
    rw [Qf5 hc.1] at h
    obtain ⟨x,_,h⟩:=Je (g:=λr=>(p.enc r,S)) h
    obtain rfl:=h;exact .refl
  |
   builtin b=>
   simp only [hcal] at h
   split at h
   ·repeat' split at h
    all_goals first|(simp at h;done)|exact keeps_k0 h .refl
   ·rename_i t u x y ht hargs
    have key:∀{y':V},C.appendV t S x y' K0=some (v,S')->Keeps (opW C {dst:=dst,op:=Op.call c,type:=type,pos:=pos,after:=after,guard:=guard} env S) S S':=λ{y'} h=>by
     have hk:=Qtv h
     have hin:∀id,id∈refs1 x++[S.length]->id∈opW C {dst:=dst,op:=Op.call c,type:=type,pos:=pos,after:=after,guard:=guard} env S:=λid hm=>by
      simp only [opW,hcal,hargs,List.flatMap_cons,List.mem_append] at hm ⊢
      rcases hm with h1|h1
      ·exact .inl (.inl h1)
      ·exact .inr h1
     exact ⟨hk.1,λid hid=>hk.2.1 id λhm=>hid (hin id hm),λhl=>hin _ (hk.2.2 hl)⟩
    split at h
    ·exact key h
    ·split at h
     ·exact key h
     ·simp at h
    ·simp at h
   ·unfold maxV at h
    split at h
    case h_2=>simp at h
    exact keeps_k0 h .refl
   ·unfold minV at h
    split at h
    case h_2=>simp at h
    exact keeps_k0 h .refl
   ·repeat' split at h
    all_goals first|(simp at h;done)|exact keeps_k0 h .refl
   ·rename_i t u x y ht hargs
    split at h
    case h_2=>simp at h
    rename_i bid ver n
    repeat' split at h
    all_goals first|(simp at h;done)|exact keeps_k0 h (.set (by simp only [opW,hcal,hargs];simp [refs1]))
   ·simp at h
theorem Qjg {a b:Nat}:Nat.blt a b=true↔a<b:=by rw [Nat.blt_eq]
abbrev Ent:=List Nat×List Nat×Bool
def accK (ac:Nat->Ent) (acc:List Ent):Nat->List Ent
 |0=>acc
 |k+1=>ac k::accK ac acc k
theorem Qlf {ac ac':Nat->Ent} {e:Ent} {acc:List Ent} (h0:ac 0=e) (h:∀k,ac (k+1)=ac' k):∀k,accK ac acc (k+1)=accK ac' (e::acc) k
 |0=>by simp [accK,h0]
 |k+1=>by rw [accK,Qlf h0 h k,h];rfl
structure Qfs (C:Ctx) (I:InlP) (ops:Array Oper) (A:Plan) (o:Oper) (env:Env) (S:Store) (env1:Env) (S1:Store) (i:Nat) (acc:List Ent) (e:Ent):Prop where
 conf:confOK (pA A i) i acc (opR C o env) (opW C o env S) (isInl C o env)=true
 way:(guardV ops o env=some true/\(∃v,C.evOp (I _) true o env S K0=some (v,S1)/\env1=put env o.dst v)/\e=(opR C o env,opW C o env S,isInl C o env)) \/
  (guardV ops o env=some false/\S1=S/\env1=put env o.dst (.tup [])/\e=([],[],false))
theorem Qgw {R:Type} (I:Inl R) (ops:Array Oper) (A:Plan) (o:Oper) (rest:List Oper) (i:Nat) (acc:List Ent) (env:Env) (S:Store) (K:Env->Store->Option R) :
  C.evOpsD I ops A (o::rest) i acc env S K=if confOK (pA A i) i acc (opR C o env) (opW C o env S) (isInl C o env) then (match guardV ops o env with
   |some true=>C.evOp I true o env S λv S'=>C.evOpsD I ops A rest (i+1) ((opR C o env,opW C o env S,isInl C o env)::acc) (put env o.dst v) S' K
   |some false=>C.evOpsD I ops A rest (i+1) (([],[],false)::acc) (put env o.dst (.tup [])) S K
   |none=>none) else none:=by
 cases hg:o.guard with
 |none=>simp only [Ctx.evOpsD,guardV,hg]
 |
  some p=>
  obtain ⟨j,want⟩:=p
  cases hs:guardSlot ops j with
  |none=>simp only [Ctx.evOpsD,guardV,hg,hs]
  |
   some g=>
   cases hb:env.getD g .undef<;>try (simp only [Ctx.evOpsD,guardV,hg,hs,hb];done)
   ·rename_i b'
    have hset:=Qmi hb (by simp)
    cases b'<;>cases want<;>simp only [Ctx.evOpsD,guardV,hg,hs,hb,Zd,Zc,hset]<;>rfl
   ·rename_i vs
    cases vs<;>simp only [Ctx.evOpsD,guardV,hg,hs,hb]
theorem Qc9 {P:Program} (hI:InlOK P C I) {R:Type} (ops:Array Oper) (A:Plan):∀(rest:List Oper) (i:Nat) (acc:List Ent) (env:Env) (S:Store) (K:Env->Store->Option R),
  C.evOpsD (I R) ops A rest i acc env S K=(C.evOpsD (I (Env×Store)) ops A rest i acc env S λe s=>some (e,s)).bind λp=>K p.1 p.2
 |[],i,acc,env,S,K=>rfl
 |
  o::rest,i,acc,env,S,K=>by
  rw [Qgw,Qgw]
  split
  case isFalse=>rfl
  split
  ·rw [Qba hI true o env S,Qba hI true o env S (λv S'=>C.evOpsD (I (Env×Store)) ops A rest (i+1) ((opR C o env,opW C o env S,isInl C o env)::acc) (put env o.dst v) S' λe s=>some (e,s))]
   cases C.evOp (I (V×Store)) true o env S K0 with
   |none=>rfl
   |some p=>exact Qc9 hI ops A rest _ _ _ _ K
  ·exact Qc9 hI ops A rest _ _ _ _ K
  ·rfl
theorem Qlh {P:Program} (hI:InlOK P C I) {ops:Array Oper} {A:Plan} {env':Env} {S':Store}:∀(rest:List Oper) (i:Nat) (acc:List Ent) (env:Env) (S:Store),
  C.evOpsD (I (Env×Store)) ops A rest i acc env S (λe s=>some (e,s))=some (env',S') ->
  ∃
   (E:Nat->Env) (T:Nat->Store) (ac:Nat->Ent),E 0=env/\T 0=S/\E rest.length=env'/\T rest.length=S' /\
   ∀k o,rest[k]? = some o->Qfs C I ops A o (E k) (T k) (E (k+1)) (T (k+1)) (i+k) (accK ac acc k) (ac k)
 |
  [],i,acc,env,S,h=>by
  simp only [Ctx.evOpsD,Zs,Prod.mk.injEq] at h
  obtain ⟨rfl,rfl⟩:=h
  exact ⟨λ_=>env,λ_=>S,λ_=>([],[],false),rfl,rfl,rfl,rfl,λk o h=>by simp at h⟩
 |
  o::rest,i,acc,env,S,h=>by
  rw [Qgw] at h
  split at h
  case isFalse=>simp at h
  rename_i hconf
  have key:∀(env1:Env) (S1:Store) (e:Ent),C.evOpsD (I (Env×Store)) ops A rest (i+1) (e::acc) env1 S1 (λe s=>some (e,s))=some (env',S') ->
    Qfs C I ops A o env S env1 S1 i acc e->∃(E:Nat->Env) (T:Nat->Store) (ac:Nat->Ent),E 0=env/\T 0=S/\E (o::rest).length=env'/\T (o::rest).length=S' /\
   ∀k o',(o::rest)[k]? = some o'->Qfs C I ops A o' (E k) (T k) (E (k+1)) (T (k+1)) (i+k) (accK ac acc k) (ac k):=by
   intro env1 S1 e h1 hs
   obtain ⟨E,T,ac,h2,h3,h4,h5,h6⟩:=Qlh hI rest _ _ _ _ h1
   refine ⟨fun|0=>env|k+1=>E k,fun|0=>S|k+1=>T k,fun|0=>e|k+1=>ac k,rfl,rfl,h4,h5,λk o' hk=>?_⟩
   cases k with
   |
    zero=>
    simp only [List.getElem?_cons_zero,Zs] at hk
    subst hk
    simpa [h2,h3,accK] using hs
   |
    succ k=>
    have:=h6 k o' (by simpa using hk)
    rw [Qlf (ac':=ac) (e:=e) rfl (λ_=>rfl)]
    rw [show i+(k+1)=i+1+k by omega]
    exact this
  split at h
  ·rename_i hg
   rw [Qba hI] at h
   simp only [Bd,Option.bind_eq_some_iff] at h
   obtain ⟨⟨v,S1⟩,h1,h2⟩:=h
   exact key _ _ _ h2 ⟨hconf,.inl ⟨hg,⟨v,h1,rfl⟩,rfl⟩⟩
  ·rename_i hg
   exact key _ _ _ h ⟨hconf,.inr ⟨hg,rfl,rfl,rfl⟩⟩
  ·simp at h
theorem Qjb (m n:Nat):tb m n=m.testBit n:=by
 rw [Nat.testBit_eq_decide_div_mod_eq]
 unfold tb
 have h1:Nat.land (Nat.shiftRight m n) 1=m/2^n%2:=by
  show (m >>> n) &&& 1=_
  rw [Nat.and_one_is_mod,Nat.shiftRight_eq_div_pow]
 rw [h1]
 by_cases h:m/2^n%2=1
 ·rw [h];rfl
 ·have:m/2^n%2=0:=by omega
  rw [this];rfl
theorem Qcl (a b n:Nat):tb (Nat.lor a b) n=(tb a n||tb b n):=by
 simp only [Qjb];exact Nat.testBit_or a b n
theorem Qen (q n:Nat):tb (Nat.shiftLeft 1 q) n=decide (q=n):=by
 rw [Qjb]
 show (1 <<< q).testBit n=_
 rw [Nat.one_shiftLeft,Nat.testBit_two_pow]
theorem Qvs (n:Nat):tb 0 n=false:=by rw [Qjb,Nat.zero_testBit]
theorem Qhz (pl:Plan) {q:Nat}:∀(l:List Edge),tb (ancM pl l) q=true->∃e∈l,Region.binds .any e=true/\(q=e.on\/tb (pA pl e.on) q=true)
 |[],h=>by rw [ancM,Qvs] at h;simp at h
 |
  e::r,h=>by
  rw [ancM] at h
  cases hb:Region.binds .any e with
  |
   false=>
   rw [hb] at h
   obtain ⟨e',h1,h2⟩:=Qhz pl r h
   exact ⟨e',by simp [h1],h2⟩
  |
   true=>
   rw [hb] at h
   simp only [Zd,Qcl,Qen,Bool.or_eq_true,decide_eq_true_eq] at h
   rcases h with (h|h)|h
   ·exact ⟨e,by simp,hb,.inl h.symm⟩
   ·exact ⟨e,by simp,hb,.inr h⟩
   ·obtain ⟨e',h1,h2⟩:=Qhz pl r h
    exact ⟨e',by simp [h1],h2⟩
theorem Qhp {D:Nat}:∀(rs:List RowP) (seen:Nat),Qb4 rs seen D=true->(∀d,tb seen d=true->tb D d=true)/\∀(p:Nat) (r:RowP) (d:Nat),rs[p]? = some r->r.1=d+1->tb D d=true/\tb seen d=false/\∀(p':Nat) (r':RowP),rs[p']? = some r'->r'.1=d+1->p=p'
 |
  [],seen,h=>by
  have:seen=D:=Nat.eq_of_beq_eq_true h
  subst this
  exact ⟨λd h=>h,λp r d h=>by simp at h⟩
 |
  r0::rs,seen,h=>by
  unfold Qb4 at h
  split at h
  ·rename_i h0
   obtain ⟨h1,h2⟩:=Qhp rs seen h
   refine ⟨h1,λp r d hp hr=>?_⟩
   cases p with
   |zero=>simp only [List.getElem?_cons_zero,Zs] at hp;subst hp;omega
   |
    succ p=>
    obtain ⟨h3,h4,h5⟩:=h2 p r d (by simpa using hp) hr
    refine ⟨h3,h4,λp' r' hp' hr'=>?_⟩
    cases p' with
    |zero=>simp only [List.getElem?_cons_zero,Zs] at hp';subst hp';omega
    |succ p'=>rw [h5 p' r' (by simpa using hp') hr']
  ·rename_i d0 h0
   simp only [Bool.and_eq_true,Bool.not_eq_true'] at h
   obtain ⟨hn,h⟩:=h
   obtain ⟨h1,h2⟩:=Qhp rs _ h
   have hin:tb D d0=true:=h1 d0 (by rw [Qcl,Qen];simp)
   refine ⟨λd hd=>h1 d (by rw [Qcl,hd];rfl),λp r d hp hr=>?_⟩
   cases p with
   |
    zero=>
    simp only [List.getElem?_cons_zero,Zs] at hp;subst hp
    have:d=d0:=by omega
    subst this
    refine ⟨hin,hn,λp' r' hp' hr'=>?_⟩
    cases p' with
    |zero=>rfl
    |
     succ p'=>
     have:=(h2 p' r' d (by simpa using hp') hr').2.1
     rw [Qcl,Qen] at this;simp at this
   |
    succ p=>
    obtain ⟨h3,h4,h5⟩:=h2 p r d (by simpa using hp) hr
    rw [Qcl,Qen] at h4
    simp only [Bool.or_eq_false_iff,decide_eq_false_iff_not] at h4
    refine ⟨h3,h4.1,λp' r' hp' hr'=>?_⟩
    cases p' with
    |
     zero=>
     simp only [List.getElem?_cons_zero,Zs] at hp';subst hp'
     exact (h4.2 (by omega)).elim
    |succ p'=>rw [h5 p' r' (by simpa using hp') hr']
theorem Qnf {ops:Array Oper} {pl:Plan}:∀(os:List Oper) (rs:List RowP) (i:Nat),Qdo ops pl i os rs=true->∀k o,os[k]? = some o->∃r,rs[k]? = some r/\Qa5 ops pl (i+k) o r=true
 |[],[],i,h=>λk o hk=>by simp at hk
 |
  o0::os,r0::rs,i,h=>λk o hk=>by
  simp only [Qdo,Bool.and_eq_true] at h
  cases k with
  |zero=>simp only [List.getElem?_cons_zero,Zs] at hk;subst hk;exact ⟨r0,rfl,h.1⟩
  |
   succ k=>
   obtain ⟨r,h1,h2⟩:=Qnf os rs (i+1) h.2 k o (by simpa using hk)
   exact ⟨r,by simpa using h1,by rw [show i+(k+1)=i+1+k by omega];exact h2⟩
 |[],_::_,i,h=>λk o hk=>by simp at hk
 |_::_,[],i,h=>by simp [Qdo] at h
theorem Qi5 {ops:Array Oper} {pl:Plan} (h:Jb ops pl=true) {i:Nat} {oi:Oper} (hi:ops[i]? = some oi):∃r,pl.1[i]? = some r/\Qa5 ops pl i oi r=true:=by
 simp only [Jb,Bool.and_eq_true] at h
 obtain ⟨r,h1,h2⟩:=Qnf _ _ 0 h.1 i oi (by simpa using hi)
 exact ⟨r,h1,by simpa using h2⟩
theorem Qno {ops:Array Oper} {pl:Plan} {i:Nat} {o:Oper} {r:RowP} (h:Qa5 ops pl i o r=true) {d:Nat} (hd:o.dst=some d):r.1=d+1:=by
 simp only [Qa5,hd,Bool.and_eq_true] at h
 exact Nat.eq_of_beq_eq_true h.1.1.2
theorem planOK_spec {ops:Array Oper} {pl:Plan} (h:Jb ops pl=true) {i:Nat} {oi:Oper} (hi:ops[i]? = some oi) :
  (∀e∈oi.after,Region.binds .any e=true->e.on<i)/\∀q oq d,ops[q]? = some oq->oq.dst=some d->(d∈oi.looksAt ops->(q<i/\tb (pA pl i) q=true)\/i=q\/(i<q/\tb (pA pl q) i=true))/\(i=q\/oi.dst≠some d):=by
 obtain ⟨r,hr,hrow⟩:=Qi5 h hi
 have hds:Qb4 pl.1 0 pl.2=true:=by simp only [Jb,Bool.and_eq_true] at h;exact h.2
 have hrow':=hrow
 simp only [Qa5,Bool.and_eq_true,List.all_eq_true] at hrow
 obtain ⟨⟨⟨⟨h1,h2⟩,h3⟩,h4⟩,h5⟩:=hrow
 have hpA:pA pl i=r.2.2:=by simp [pA,Zl,hr]
 refine ⟨λe he hb=>?_,λq oq d hq hd=>?_⟩
 ·have:=h2 e (by simpa using he)
  simp only [hb,Zn,Bool.false_or] at this
  exact Qjg.1 this
 ·obtain ⟨rq,hrq,hrowq⟩:=Qi5 h hq
  have hrd:=Qno hrowq hd
  obtain ⟨hD,_,huniq⟩:=(Qhp pl.1 0 hds).2 q rq d hrq hrd
  refine ⟨λhl=>?_,?_⟩
  ·have:=h4 d (by simpa using hl)
   simp only [List.any_eq_true] at this
   obtain ⟨tq,htq,hb⟩:=this
   have ht:tq.1=d:=Nat.eq_of_beq_eq_true hb
   have h6:=h5 tq htq
   split at h6
   ·rw [ht,hD] at h6;simp at h6
   ·rename_i q' hq'
    simp only [Bool.and_eq_true,Bool.or_eq_true] at h6
    obtain ⟨h7,h8⟩:=h6
    have h7:=Nat.eq_of_beq_eq_true h7
    have hq'':q=q':=by
     rw [Zl] at h7
     cases hg:pl.1[q']? with
     |none=>rw [hg] at h7;simp at h7
     |some r'=>rw [hg] at h7;exact huniq q' r' hg (by simpa [ht] using h7)
    subst hq''
    rcases h8 with (h8|h8)|h8
    ·exact .inr (.inl (Nat.eq_of_beq_eq_true h8).symm)
    ·exact .inl ⟨Qjg.1 h8.1,by rw [hpA];exact h8.2⟩
    ·exact .inr (.inr ⟨Qjg.1 h8.1,h8.2⟩)
  ·by_cases hdi:oi.dst=some d
   ·left
    exact (huniq i r hr (Qno hrow' hdi)).symm
   ·exact .inr hdi
theorem Qkz {ops:Array Oper} {pl:Plan} (hs:Jb ops pl=true) {L:Nat->Prop} (down:∀j oj,ops[j]? = some oj->L j->∀e∈oj.after,Region.binds .any e=true->L e.on) :
  ∀(i:Nat) (oi:Oper),ops[i]? = some oi->(∀e∈oi.after,Region.binds .any e=true->L e.on)->∀q,tb (pA pl i) q=true->L q:=by
 intro i
 induction i using Nat.strongRecOn with
 |
  _ i ih=>
  intro oi hi hall q hq
  obtain ⟨r,hr,hrow⟩:=Qi5 hs hi
  have hpA:pA pl i=r.2.2:=by simp [pA,Zl,hr]
  simp only [Qa5,Bool.and_eq_true] at hrow
  have he:=Nat.eq_of_beq_eq_true hrow.1.1.1.1
  rw [hpA,he] at hq
  obtain ⟨e,he,hb,hq⟩:=Qhz pl _ hq
  have he:e∈oi.after:=by simpa using he
  rcases hq with rfl|hq
  ·exact hall e he hb
  ·have hlt:=(planOK_spec hs hi).1 e he hb
   have hsz:i<ops.size:=by
    by_cases h:i<ops.size
    ·exact h
    ·rw [Array.getElem?_eq_none (by omega)] at hi;simp at hi
   have ho:ops[e.on]? = some (ops[e.on]'(by omega)):=by rw [Array.getElem?_eq_getElem]
   exact ih e.on hlt _ ho (down _ _ ho (hall e he hb)) q hq
theorem Qk8 {anc:Nat} {ac:Nat->Ent} {rd wr:List Nat} {bar:Bool}:∀(k:Nat),confOK anc k (accK ac [] k) rd wr bar=true->∀{q:Nat},q<k ->
  tb anc q=true\/(rd=[]/\wr=[]/\bar=false)\/((ac q).1=[]/\(ac q).2.1=[]/\(ac q).2.2=false)\/(bar=false/\(ac q).2.2=false/\(∀id∈wr,id∉(ac q).1)/\(∀id∈wr,id∉(ac q).2.1)/\∀id∈rd,id∉(ac q).2.1)
 |0,h,q,hq=>by omega
 |
  k+1,h,q,hq=>by
  simp only [accK,confOK,Bool.and_eq_true] at h
  by_cases e:q=k
  ·subst e
   have:=h.1
   simp only [Qil,Bool.or_eq_true,Bool.and_eq_true,Bool.not_eq_true',disj,List.all_eq_true,List.contains_eq_mem,decide_eq_false_iff_not,List.isEmpty_iff] at this
   rcases this with h1|h1|h1|h1
   ·exact .inl h1
   ·exact .inr (.inl ⟨h1.1.1,h1.1.2,h1.2⟩)
   ·exact .inr (.inr (.inl ⟨h1.1.1,h1.1.2,h1.2⟩))
   ·obtain ⟨⟨⟨⟨h1,h2⟩,h3⟩,h4⟩,h5⟩:=h1
    exact .inr (.inr (.inr ⟨h1,h2,h3,h4,h5⟩))
  ·exact Qk8 k h.2 (by omega)
end
end Go.Proofs.YtgjncgiekniniaaGreatDoor.A
end
section
set_option linter.unusedSectionVars false
namespace Go.Proofs.YtgjncgiekniniaaGreatDoor.A
open Go Go.RowKit
theorem put_get_ne {env:Env} {dst:Option Nat} {v:V} {t:Nat} (h:dst≠some t):(put env dst v).getD t .undef=env.getD t .undef:=by
 cases dst with
 |none=>rfl
 |
  some d=>
  have:d≠t:=λe=>h (by rw [e])
  simp only [put,Zl,List.getElem?_set_ne this]
theorem Qnc {env:Env} {d:Nat} {v:V} (h:d<env.length):(put env (some d) v).getD d .undef=v:=by
 simp [put,Zl,h]
theorem put_len {env:Env} {dst:Option Nat} {v:V}:(put env dst v).length=env.length:=by cases dst<;>simp [put]
section
variable {P:Program} {C:Ctx} {I:InlP} {ops:Array Oper} {pl:Plan} {E:Nat->Env} {T:Nat->Store} {ac:Nat->Ent} {a0:Act} {M0:Mem}
abbrev RunV (C:Ctx) (I:InlP) (ops:Array Oper) (pl:Plan) (E:Nat->Env) (T:Nat->Store) (ac:Nat->Ent):Prop:=
 ∀k o,ops[k]? = some o->Qfs C I ops pl o (E k) (T k) (E (k+1)) (T (k+1)) k (accK ac [] k) (ac k)
def Wr (ac:Nat->Ent) (q id:Nat):Prop:=id∈(ac q).2.1\/(ac q).2.2=true
def Qam (e:Ent):Prop:=e.1=[]/\e.2.1=[]/\e.2.2=false
theorem Qa2 {q id:Nat} (h:Qam (ac q)):¬Wr ac q id:=λhw=>by
 rcases hw with hw|hw
 ·rw [h.2.1] at hw;simp at hw
 ·rw [h.2.2] at hw;simp at hw
structure Inv (ops:Array Oper) (E:Nat->Env) (T:Nat->Store) (ac:Nat->Ent) (a0:Act) (M0:Mem) (L:Nat->Prop) (a:Act) (M:Mem):Prop where
 down:∀j oj,ops[j]? = some oj->L j->∀e∈oj.after,Region.binds .any e=true->L e.on
 ok:M.ok
 step:Step M0 M
 defs:a.defers=a0.defers
 size:a.tmps.size=(E 0).length
 slot:∀t,t<(E 0).length->(∀q oq,ops[q]? = some oq->oq.dst=some t->L q)->Rep M (a.tmps.getD t Go.undef) ((E ops.size).getD t .undef)
 slot0:∀t,t<(E 0).length->(∀q oq,ops[q]? = some oq->oq.dst=some t->¬L q)->Rep M (a.tmps.getD t Go.undef) ((E 0).getD t .undef)
 store:∀id j,j<=ops.size->(∀q,q<j->Wr ac q id->L q)->(∀q,j<=q->q<ops.size->Wr ac q id->¬L q)->M.S id=(T j).getD id .dead
 alloc:∀id,(M.μ id).isSome=true->id<(T 0).length\/∃q,q<ops.size/\L q/\(T q).length<=id/\id<(T (q+1)).length
 mono:∀q,q<ops.size->L q->(T q).length<=(T (q+1)).length
variable (hr:RunV C I ops pl E T ac)
include hr
theorem Qb3:∀k,k<=ops.size->(E k).length=(E 0).length
 |0,_=>rfl
 |
  k+1,h=>by
  have hk:ops[k]? = some (ops[k]'(by omega)):=Array.getElem?_eq_getElem (by omega)
  rw [<-Qb3 k (by omega)]
  rcases (hr k _ hk).way with ⟨_,⟨v,_,e⟩,_⟩|⟨_,_,e,_⟩<;>rw [e,put_len]
theorem Qe9 {t i:Nat}:∀k,i<=k->k<=ops.size->(∀q oq,i<=q->q<k->ops[q]? = some oq->oq.dst≠some t)->(E k).getD t .undef=(E i).getD t .undef:=by
 intro k
 induction k with
 |zero=>
      intro h _ _;have:i=0:=by omega
      subst this;rfl
 |
  succ k ih=>
  intro h h2 h3
  by_cases e:i=k+1
  ·subst e;rfl
  ·rw [<-ih (by omega) (by omega) λq oq h4 h5=>h3 q oq h4 (by omega)]
   have hk:ops[k]? = some (ops[k]'(by omega)):=Array.getElem?_eq_getElem (by omega)
   have hne:=h3 k _ (by omega) (by omega) hk
   rcases (hr k _ hk).way with ⟨_,⟨v,_,e⟩,_⟩|⟨_,_,e,_⟩<;>rw [e,put_get_ne hne]
theorem Qrd {k:Nat} (hk:k<ops.size) {id:Nat} (hw:¬Wr ac k id):(T (k+1)).getD id .dead=(T k).getD id .dead:=by
 have hk':ops[k]? = some (ops[k]'(by omega)):=Array.getElem?_eq_getElem (by omega)
 rcases (hr k _ hk').way with ⟨_,⟨v,h1,_⟩,e⟩|⟨_,e,_,_⟩
 ·rw [Wr,e] at hw
  simp only [not_or,Bool.not_eq_true] at hw
  exact (Qfm _ h1 hw.2).2.1 id hw.1
 ·rw [e]
theorem Qhw {id i:Nat}:∀k,i<=k->k<=ops.size->(∀q,i<=q->q<k->¬Wr ac q id)->(T k).getD id .dead=(T i).getD id .dead:=by
 intro k
 induction k with
 |zero=>
      intro h _ _;have:i=0:=by omega
      subst this;rfl
 |
  succ k ih=>
  intro h h2 h3
  by_cases e:i=k+1
  ·subst e;rfl
  ·rw [Qrd hr (by omega) (h3 k (by omega) (by omega)),ih (by omega) (by omega) λq h4 h5=>h3 q h4 (by omega)]
theorem Qtu {k:Nat} (hk:k<ops.size) (hb:(ac k).2.2=false):(T k).length<=(T (k+1)).length:=by
 have hk':ops[k]? = some (ops[k]'(by omega)):=Array.getElem?_eq_getElem (by omega)
 rcases (hr k _ hk').way with ⟨_,⟨v,h1,_⟩,e⟩|⟨_,e,_,_⟩
 ·rw [e] at hb;exact (Qfm _ h1 hb).1
 ·rw [e];exact Nat.le_refl _
theorem Qec {k:Nat} (hk:k<ops.size) (h:(T k).length<(T (k+1)).length):¬Qam (ac k):=λhp=>by
 have hk':ops[k]? = some (ops[k]'(by omega)):=Array.getElem?_eq_getElem (by omega)
 rcases (hr k _ hk').way with ⟨_,⟨v,h1,_⟩,e⟩|⟨_,e,_,_⟩
 ·rw [e] at hp
  obtain ⟨_,h3,h4⟩:=hp
  simp only at h3 h4
  have:=(Qfm _ h1 h4).2.2 h
  rw [h3] at this;simp at this
 ·rw [e] at h;omega
theorem Qau {L:Nat->Prop} {a:Act} {M:Mem} (hI:Inv ops E T ac a0 M0 L a M) {i:Nat}:∀k,i<=k->k<=ops.size->(∀q,i<=q->q<k->(ac q).2.2=true->L q)->(T i).length<=(T k).length:=by
 intro k
 induction k with
 |zero=>
      intro h _ _;have:i=0:=by omega
      subst this;exact Nat.le_refl _
 |
  succ k ih=>
  intro h h2 h3
  by_cases e:i=k+1
  ·subst e;exact Nat.le_refl _
  ·refine Nat.le_trans (ih (by omega) (by omega) λq h4 h5=>h3 q h4 (by omega)) ?_
   cases hb:(ac k).2.2 with
   |false=>exact Qtu hr (by omega) hb
   |true=>exact hI.mono k (by omega) (h3 k (by omega) (by omega) hb)
variable (hs:Jb ops pl=true)
include hs
structure Turn (ops:Array Oper) (L:Nat->Prop) (i:Nat) (o:Oper):Prop where
 get:ops[i]? = some o
 un:¬L i
 all:∀e∈o.after,Region.binds .any e=true->L e.on
omit hr hs in
theorem Turn.lt {L:Nat->Prop} {i:Nat} {o:Oper} (h:Turn ops L i o):i<ops.size:=by
 by_cases hlt:i<ops.size
 ·exact hlt
 ·have:=h.get;rw [Array.getElem?_eq_none (by omega)] at this;simp at this
theorem run_conf {k q:Nat} (hk:k<ops.size) (hq:q<k):tb (pA pl k) q=true\/Qam (ac k)\/Qam (ac q)\/((ac k).2.2=false/\(ac q).2.2=false/\(∀id∈(ac k).2.1,id∉(ac q).1)/\(∀id∈(ac k).2.1,id∉(ac q).2.1)/\∀id∈(ac k).1,id∉(ac q).2.1):=by
 have hk':ops[k]? = some (ops[k]'(by omega)):=Array.getElem?_eq_getElem (by omega)
 have hst:=hr k _ hk'
 have h1:=Qk8 k hst.conf hq
 rcases hst.way with ⟨_,_,e⟩|⟨_,_,_,e⟩
 ·rcases h1 with h1|h1|h1|h1
  ·exact .inl h1
  ·exact .inr (.inl (by rw [e];exact h1))
  ·exact .inr (.inr (.inl h1))
  ·exact .inr (.inr (.inr (by rw [e];exact h1)))
 ·exact .inr (.inl (by rw [e];exact ⟨rfl,rfl,rfl⟩))
theorem Qgg {L:Nat->Prop} {a:Act} {M:Mem} (hI:Inv ops E T ac a0 M0 L a M) {k q:Nat} (hk:k<ops.size) (hL:L k) (hq:tb (pA pl k) q=true):L q:=by
 have hk':ops[k]? = some (ops[k]'(by omega)):=Array.getElem?_eq_getElem (by omega)
 exact Qkz hs hI.down k _ hk' (hI.down k _ hk' hL) q hq
theorem Qc2 {L:Nat->Prop} {a:Act} {M:Mem} (hI:Inv ops E T ac a0 M0 L a M) {i:Nat} {o:Oper} (ht:Turn ops L i o) {q:Nat} (hq:tb (pA pl i) q=true):L q:=
 Qkz hs hI.down i o ht.get ht.all q hq
theorem Qgf {L:Nat->Prop} {a:Act} {M:Mem} (hI:Inv ops E T ac a0 M0 L a M) {i:Nat} {o:Oper} (ht:Turn ops L i o) {q:Nat} (hq:i<q) (hq2:q<ops.size) (hL:L q):¬tb (pA pl q) i=true:=λh=>ht.un (Qgg hr hs hI hq2 hL h)
theorem Qkn {L:Nat->Prop} {a:Act} {M:Mem} (hI:Inv ops E T ac a0 M0 L a M) {i:Nat} {o:Oper} (ht:Turn ops L i o) {t:Nat} (hl:t∈o.looksAt ops):Rep M (a.tmps.getD t Go.undef) ((E i).getD t .undef):=by
 by_cases hlt:t<(E 0).length
 ·by_cases hw:∃q0 oq0,ops[q0]? = some oq0/\oq0.dst=some t/\i<=q0
  ·obtain ⟨q0,oq0,hq0,hd0,hle⟩:=hw
   have huniq:∀q oq,ops[q]? = some oq->oq.dst=some t->q=q0:=λq oq hq hd=>by
    rcases ((planOK_spec hs hq).2 q0 oq0 t hq0 hd0).2 with h|h
    ·exact h
    ·exact (h hd).elim
   rw [Qe9 hr i (i:=0) (Nat.zero_le _) (Nat.le_of_lt ht.lt) λq oq _ hq2 hq hd=>by have:=huniq q oq hq hd;omega]
   refine hI.slot0 t hlt λq oq hq hd hL=>?_
   obtain rfl:=huniq q oq hq hd
   rcases ((planOK_spec hs ht.get).2 q oq t hq hd).1 hl with h|h|h
   ·omega
   ·subst h;exact ht.un hL
   ·exact ht.un (Qgg hr hs hI (Array.getElem?_eq_some_iff.1 hq).1 hL h.2)
  ·rw [<-Qe9 hr ops.size (Nat.le_of_lt ht.lt) (Nat.le_refl _) λq oq h1 _ hq hd=>hw ⟨q,oq,hq,hd,h1⟩]
   exact hI.slot t hlt λq oq hq hd=>by
    rcases ((planOK_spec hs ht.get).2 q oq t hq hd).1 hl with h|h|h
    ·exact Qc2 hr hs hI ht h.2
    ·exact (hw ⟨q,oq,hq,hd,by omega⟩).elim
    ·exact (hw ⟨q,oq,hq,hd,by omega⟩).elim
 ·have:(E i).getD t .undef=.undef:=by
   rw [Zl,List.getElem?_eq_none (by rw [Qb3 hr i (Nat.le_of_lt ht.lt)];omega)];rfl
  rw [this];exact .imm (.undef _)
theorem Qne {L:Nat->Prop} {a:Act} {M:Mem} (hI:Inv ops E T ac a0 M0 L a M) {i:Nat} {o:Oper} (ht:Turn ops L i o) (ty:Nat) (x:Operand) (hx:x∈o.op.operands):Rep M (a.eval x) (C.opv (E i) ty x):=by
 cases x with
 |
  tmp t=>
  have:=Qkn hr hs hI ht (t:=t) (List.mem_append_left _ (List.mem_filterMap.2 ⟨.tmp t,by simpa using hx,rfl⟩))
  simpa [Act.eval,Ctx.opv,Array.getD_eq_getD_getElem?] using this
 |const c=>exact .imm (Qom C ty c)
 |func f=>exact .imm (.func f)
 |global g=>exact .imm (.undef _)
theorem Quy {L:Nat->Prop} {a:Act} {M:Mem} (hI:Inv ops E T ac a0 M0 L a M) {i:Nat} {o:Oper} (ht:Turn ops L i o) (hg:guardV ops o (E i)=some true) (ty:Nat) (x:Operand) (hx:x∈o.op.operands):∀id∈refs1 (C.opv (E i) ty x),M.S id=(T i).getD id .dead:=by
 intro id hid
 have hrd:id∈opR C o (E i):=by
  simp only [opR,List.mem_flatMap]
  refine ⟨x,by simpa using hx,?_⟩
  have:refs1 (C.opv (E i) ty x) ⊆ refs1 (C.opv (E i) 0 x):=by
   cases x<;>simp only [Ctx.opv]<;>try exact λ_ h=>h
   rename_i c
   intro y hy
   have:refs1 (C.constV ty c)=[]:=by
    unfold Ctx.constV
    split<;>try rfl
    unfold Ctx.emptyOf
    repeat' split
    all_goals rfl
   rw [this] at hy;simp at hy
  exact this hid
 have hac:(ac i)=(opR C o (E i),opW C o (E i) (T i),isInl C o (E i)):=by
  rcases (hr i o ht.get).way with ⟨_,_,e⟩|⟨h,_⟩
  ·exact e
  ·rw [hg] at h;simp at h
 have hrd':id∈(ac i).1:=by rw [hac];exact hrd
 refine hI.store id i (Nat.le_of_lt ht.lt) (λq hq hw=>?_) (λq hq hq2 hw hL=>?_)
 ·rcases run_conf hr hs ht.lt hq with h|h|h|⟨_,h2,_,_,h5⟩
  ·exact Qc2 hr hs hI ht h
  ·rw [h.1] at hrd';simp at hrd'
  ·exact (Qa2 h hw).elim
  ·rcases hw with hw|hw
   ·exact (h5 id hrd' hw).elim
   ·rw [h2] at hw;simp at hw
 ·have hne:i≠q:=λe=>ht.un (e▸hL)
  rcases run_conf hr hs hq2 (show i<q by omega) with h|h|h|⟨h1,_,h3,_,_⟩
  ·exact Qgf hr hs hI ht (by omega) hq2 hL h
  ·exact Qa2 h hw
  ·rw [h.1] at hrd';simp at hrd'
  ·rcases hw with hw|hw
   ·exact h3 id hw hrd'
   ·rw [h1] at hw;simp at hw
theorem Inv.next {L:Nat->Prop} {a:Act} {M:Mem} (hI:Inv ops E T ac a0 M0 L a M) {i:Nat} {o:Oper} (ht:Turn ops L i o) {M':Mem} (hst:Step M M') (hok:M'.ok) {cv:Value} (hrep:∀d,o.dst=some d->d<(E 0).length->Rep M' cv ((E (i+1)).getD d .undef))
  (hstore:∀id j,j<=ops.size->(∀q,q<j->Wr ac q id->L q\/q=i)->(∀q,j<=q->q<ops.size->Wr ac q id->¬(L q\/q=i))->M'.S id=(T j).getD id .dead)
  (halloc:∀id,(M'.μ id).isSome=true->id<(T 0).length\/∃q,q<ops.size/\(L q\/q=i)/\(T q).length<=id/\id<(T (q+1)).length)
  (hmono:(T i).length<=(T (i+1)).length):Inv ops E T ac a0 M0 (λq=>L q\/q=i) (a.put o.dst cv) M' where
 down j oj hj hL e he hb:=by
  rcases hL with hL|rfl
  ·exact .inl (hI.down j oj hj hL e he hb)
  ·have:=ht.get;rw [this] at hj;simp only [Zs] at hj;subst hj
   exact .inl (ht.all e he hb)
 ok:=hok
 step:=hI.step.trans hst
 defs:=by rw [Qbz,hI.defs]
 size:=by
  rw [<-hI.size];cases o.dst<;>simp [Act.put]
 slot t hlt hw:=by
  by_cases hd:o.dst=some t
  ·have h1:=hrep t hd hlt
   rw [<-Qe9 hr ops.size (i:=i+1) (by have:=ht.lt;omega) (Nat.le_refl _) λq oq h1 _ hq hd'=>by
    have:=((planOK_spec hs ht.get).2 q oq t hq hd').2
    rcases this with h|h
    ·omega
    ·exact h hd] at h1
   have:(a.put o.dst cv).tmps.getD t Go.undef=cv:=by
    rw [hd];simp [Act.put,Array.getD_eq_getD_getElem?,hI.size,hlt]
   rw [this];exact h1
  ·have h1:=hst.rep hI.ok (hI.slot t hlt λq oq hq hdq=>(hw q oq hq hdq).resolve_right λe=>by
    subst e;have:=ht.get;rw [this] at hq;simp only [Zs] at hq;subst hq;exact hd hdq)
   have:(a.put o.dst cv).tmps.getD t Go.undef=a.tmps.getD t Go.undef:=by
    cases hdd:o.dst with
    |none=>rfl
    |
     some d=>
     have:d≠t:=λe=>hd (by rw [hdd,e])
     simp [Act.put,Array.getD_eq_getD_getElem?,Array.getElem?_setIfInBounds_ne this]
   rw [this];exact h1
 slot0 t hlt hw:=by
  have hd:o.dst≠some t:=λh=>hw i o ht.get h (.inr rfl)
  have h1:=hst.rep hI.ok (hI.slot0 t hlt λq oq hq hdq hL=>hw q oq hq hdq (.inl hL))
  have:(a.put o.dst cv).tmps.getD t Go.undef=a.tmps.getD t Go.undef:=by
   cases hdd:o.dst with
   |none=>rfl
   |
    some d=>
    have:d≠t:=λe=>hd (by rw [hdd,e])
    simp [Act.put,Array.getD_eq_getD_getElem?,Array.getElem?_setIfInBounds_ne this]
  rw [this];exact h1
 store:=hstore
 alloc:=halloc
 mono q hq hL:=by
  rcases hL with hL|rfl
  ·exact hI.mono q hq hL
  ·exact hmono
theorem Qwy (hC:Wf P C) (hIn:InlOK P C I) {L:Nat->Prop} {a:Act} {M:Mem} (hI:Inv ops E T ac a0 M0 L a M) {i:Nat} {o:Oper} (ht:Turn ops L i o) (hg:guardV ops o (E i)=some true) {Q:Exit->Act->World->Prop} {K:Act->World->Prop}
  (hK:∀a' M',Inv ops E T ac a0 M0 (λq=>L q\/q=i) a' M'->K a' M'.w):o.wp P a M.w K Q:=by
 have hlt:=ht.lt
 obtain ⟨v,hev,hE,hac⟩:∃v,C.evOp (I _) true o (E i) (T i) K0=some (v,T (i+1))/\E (i+1)=put (E i) o.dst v/\ac i=(opR C o (E i),opW C o (E i) (T i),isInl C o (E i)):=by
  rcases (hr i o ht.get).way with ⟨_,⟨v,h1,h2⟩,e⟩|⟨h,_⟩
  ·exact ⟨v,h1,h2,e⟩
  ·rw [hg] at h;simp at h
 have hrepv:∀{M':Mem} {cv:Value},Rep M' cv v->∀d,o.dst=some d->d<(E 0).length->Rep M' cv ((E (i+1)).getD d .undef):=λhv d hd hdl=>by
  rw [hE,hd,Qnc (by rw [Qb3 hr i (Nat.le_of_lt hlt)];exact hdl)];exact hv
 cases hinl:isInl C o (E i) with
 |
  false=>
  have hmono:(T i).length<=(T (i+1)).length:=(Qfm _ hev hinl).1
  have hbar:(ac i).2.2=false:=by rw [hac];exact hinl
  have hWi:∀{id},Wr ac i id↔id∈opW C o (E i) (T i):=by intro id;simp only [Wr,hbar,hac,Bool.false_eq_true,or_false,hinl]
  refine Qlo hC o hI.ok (λhgrow=>?_) (λty x hx=>Qne hr hs hI ht ty x hx) (λty x hx=>Quy hr hs hI ht hg ty x hx) hinl hev λcv M' wr hv hp hsub=>hK _ _ (hI.next hr hs ht hp.step hp.ok (hrepv hv) ?_ ?_ hmono)
  ·cases hμ:M.μ (T i).length with
   |none=>rfl
   |
    some l=>
    exfalso
    have hnp:=Qec hr hlt hgrow
    rcases hI.alloc (T i).length (by rw [hμ];rfl) with h|⟨q,hq,hL,h1,h2⟩
    ·have:=Qau hr hI i (Nat.zero_le _) (Nat.le_of_lt hlt) λq _ hq hb=>by
      rcases run_conf hr hs hlt hq with h|h|h|⟨_,h2,_⟩
      ·exact Qc2 hr hs hI ht h
      ·exact (hnp h).elim
      ·rw [h.2.2] at hb;simp at hb
      ·rw [h2] at hb;simp at hb
     omega
    ·have hne:q≠i:=λe=>ht.un (e▸hL)
     by_cases hqi:q<i
     ·have:=Qau hr hI (i:=q+1) i (by omega) (Nat.le_of_lt hlt) λr _ hr' hb=>by
       rcases run_conf hr hs hlt hr' with h|h|h|⟨_,h2,_⟩
       ·exact Qc2 hr hs hI ht h
       ·exact (hnp h).elim
       ·rw [h.2.2] at hb;simp at hb
       ·rw [h2] at hb;simp at hb
      omega
     ·have:=Qau hr hI (i:=i+1) q (by omega) (Nat.le_of_lt hq) λr hr1 hr2 hb=>by
       have hrq:tb (pA pl q) r=true:=by
        rcases run_conf hr hs hq hr2 with h|h|h|⟨_,h2,_⟩
        ·exact h
        ·exact (Qec hr hq (by omega) h).elim
        ·rw [h.2.2] at hb;simp at hb
        ·rw [h2] at hb;simp at hb
       exact Qgg hr hs hI hq hL hrq
      omega
  ·intro id j hj h1 h2
   have hcase:Wr ac i id->i<j/\∀q,i<q->q<j->¬Wr ac q id:=λhw=>by
    have hij:i<j:=by
     rcases Nat.lt_or_ge i j with h|h
     ·exact h
     ·exact (h2 i h hlt hw (.inr rfl)).elim
    refine ⟨hij,λq hq1 hq2 hwq=>?_⟩
    have hL:L q:=(h1 q hq2 hwq).resolve_right (by omega)
    rcases run_conf hr hs (show q<ops.size by omega) hq1 with h|h|h|⟨h3,_,_,h4,_⟩
    ·exact Qgf hr hs hI ht hq1 (by omega) hL h
    ·exact Qa2 h hwq
    ·exact Qa2 h hw
    ·rcases hwq with hwq|hwq
     ·rcases hw with hw|hw
      ·exact h4 id hwq hw
      ·rw [hbar] at hw;simp at hw
     ·rw [h3] at hwq;simp at hwq
   by_cases hwi:Wr ac i id
   ·obtain ⟨hij,hno⟩:=hcase hwi
    have hT:(T j).getD id .dead=(T (i+1)).getD id .dead:=Qhw hr j (by omega) hj λq hq1 hq2=>hno q (by omega) hq2
    rw [hT]
    by_cases hwr:id∈wr
    ·exact hp.wrS id hwr
    ·rw [hp.keepM id hwr,hp.keepS id hwr]
     refine hI.store id i (Nat.le_of_lt hlt) (λq hq hwq=>(h1 q (by omega) hwq).resolve_right (by omega)) (λq hq hq2 hwq hL=>?_)
     by_cases hqi:q=i
     ·subst hqi;exact ht.un hL
     ·by_cases hqj:q<j
      ·exact hno q (by omega) hqj hwq
      ·exact h2 q (by omega) hq2 hwq (.inl hL)
   ·have hwr:id∉wr:=λh=>hwi (hWi.2 (hsub h))
    rw [hp.keepM id hwr]
    exact hI.store id j hj (λq hq hwq=>(h1 q hq hwq).resolve_right λe=>by subst e;exact hwi hwq) (λq hq hq2 hwq hL=>h2 q hq hq2 hwq (.inl hL))
  ·intro id hid
   by_cases e:id=(T i).length
   ·subst e
    rcases hp.μ' hid with h|h
    ·rcases hI.alloc _ h with h|⟨q,h1,h2,h3⟩
     ·exact .inl h
     ·exact .inr ⟨q,h1,.inl h2,h3⟩
    ·exact .inr ⟨i,hlt,.inr rfl,Nat.le_refl _,h⟩
   ·rw [hp.μ id e] at hid
    rcases hI.alloc _ hid with h|⟨q,h1,h2,h3⟩
    ·exact .inl h
    ·exact .inr ⟨q,h1,.inl h2,h3⟩
 |
  true=>
  have hbar:(ac i).2.2=true:=by rw [hac];exact hinl
  have hbef:∀q,q<i->¬Qam (ac q)->L q:=λq hq hn=>by
   rcases run_conf hr hs hlt hq with h|h|h|⟨h,_⟩
   ·exact Qc2 hr hs hI ht h
   ·have:=h.2.2;rw [hbar] at this;simp at this
   ·exact (hn h).elim
   ·rw [hbar] at h;simp at h
  have haft:∀q,i<q->q<ops.size->¬Qam (ac q)->¬L q:=λq hq hq2 hn hL=>by
   rcases run_conf hr hs hq2 hq with h|h|h|⟨_,h,_⟩
   ·exact Qgf hr hs hI ht hq hq2 hL h
   ·exact hn h
   ·have:=h.2.2;rw [hbar] at this;simp at this
   ·rw [hbar] at h;simp at h
  have hnb:∀q,(ac q).2.2=true->¬Qam (ac q):=λq h hp=>by rw [hp.2.2] at h;simp at h
  have hN:Now M (T i):=by
   refine ⟨hI.ok,λid=>hI.store id i (Nat.le_of_lt hlt) (λq hq hw=>hbef q hq λhp=>Qa2 hp hw) (λq hq hq2 hw hL=>?_),λid hid=>?_⟩
   ·by_cases e:q=i
    ·subst e;exact ht.un hL
    ·exact haft q (by omega) hq2 (λhp=>Qa2 hp hw) hL
   ·cases hμ:M.μ id with
    |none=>rfl
    |
     some l=>
     exfalso
     rcases hI.alloc id (by rw [hμ];rfl) with h|⟨q,hq,hL,h1,h2⟩
     ·have:=Qau hr hI i (Nat.zero_le _) (Nat.le_of_lt hlt) λq _ hq hb=>hbef q hq (hnb q hb)
      omega
     ·have hqi:q<i:=by
       rcases Nat.lt_trichotomy q i with h|h|h
       ·exact h
       ·subst h;exact (ht.un hL).elim
       ·exact (haft q h hq (Qec hr hq (by omega)) hL).elim
      have:=Qau hr hI (i:=q+1) i (by omega) (Nat.le_of_lt hlt) λr _ hr' hb=>hbef r hr' (hnb r hb)
      omega
  refine Qj0 hIn true o hN (λty x hx=>Qne hr hs hI ht ty x hx) hinl hev λcv M' hst hN' hv hlen=>hK _ _ (hI.next hr hs ht hst hN'.ok (hrepv hv) ?_ ?_ hlen)
  ·intro id j hj h1 h2
   have hij:i<j:=by
    rcases Nat.lt_or_ge i j with h|h
    ·exact h
    ·exact (h2 i h hlt (.inr hbar) (.inr rfl)).elim
   rw [hN'.is id]
   refine (Qhw hr j (by omega) hj λq hq1 hq2 hw=>?_).symm
   exact haft q (by omega) (by omega) (λhp=>Qa2 hp hw) ((h1 q hq2 hw).resolve_right (by omega))
  ·have key:∀m,m<=i+1->∀id,id<(T m).length->id<(T 0).length\/∃q,q<m/\(T q).length<=id/\id<(T (q+1)).length:=by
    intro m
    induction m with
    |zero=>intro _ id h;exact .inl h
    |
     succ m ih=>
     intro hm id h
     by_cases hlm:id<(T m).length
     ·rcases ih (by omega) id hlm with h|⟨q,h1,h2⟩
      ·exact .inl h
      ·exact .inr ⟨q,by omega,h2⟩
     ·exact .inr ⟨m,by omega,by omega,h⟩
   intro id hid
   have hlt':id<(T (i+1)).length:=by
    rcases Nat.lt_or_ge id (T (i+1)).length with h|h
    ·exact h
    ·rw [hN'.fresh id h] at hid;simp at hid
   rcases key (i+1) (Nat.le_refl _) id hlt' with h|⟨q,h1,h2,h3⟩
   ·exact .inl h
   ·refine .inr ⟨q,by omega,?_,h2,h3⟩
    by_cases e:q=i
    ·exact .inr e
    ·exact .inl (hbef q (by omega) (Qec hr (by omega) (by omega)))
theorem Qrj {L:Nat->Prop} {a:Act} {M:Mem} (hI:Inv ops E T ac a0 M0 L a M) {i:Nat} {o:Oper} (ht:Turn ops L i o) (hg:guardV ops o (E i)=some false):Inv ops E T ac a0 M0 (λq=>L q\/q=i) (a.put o.dst Go.undef) M:=by
 have hlt:=ht.lt
 obtain ⟨hT,hE,hac⟩:T (i+1)=T i/\E (i+1)=put (E i) o.dst (.tup [])/\ac i=([],[],false):=by
  rcases (hr i o ht.get).way with ⟨h,_⟩|⟨_,h⟩
  ·rw [hg] at h;simp at h
  ·exact h
 have hwi:∀id,¬Wr ac i id:=λid h=>by simp [Wr,hac] at h
 refine hI.next hr hs ht (.refl M) hI.ok (λd hd hdl=>?_) (λid j hj h1 h2=>?_) (λid hid=>?_) (by rw [hT];exact Nat.le_refl _)
 ·rw [hE,hd,Qnc (by rw [Qb3 hr i (Nat.le_of_lt hlt)];exact hdl)]
  exact .imm (.tup #[] [] rfl (λj hj=>by simp at hj))
 ·exact hI.store id j hj (λq hq hwq=>(h1 q hq hwq).resolve_right λe=>by subst e;exact hwi _ hwq) (λq hq hq2 hwq hL=>h2 q hq hq2 hwq (.inl hL))
 ·rcases hI.alloc _ hid with h|⟨q,h1,h2,h3⟩
  ·exact .inl h
  ·exact .inr ⟨q,h1,.inl h2,h3⟩
end
theorem Qw5 {l:List Bool} {i:Nat} (h:l[i]? = some false):(l.set i true).count false+1=l.count false:=by
 induction l generalizing i with
 |nil=>simp at h
 |
  cons b l ih=>
  cases i with
  |zero=>simp only [List.getElem?_cons_zero,Zs] at h;subst h;simp
  |
   succ i=>
   have:=ih (i:=i) (by simpa using h)
   simp only [List.set_cons_succ,List.count_cons] at this ⊢
   omega
section
variable {P:Program} {C:Ctx} {I:InlP} {ops:Array Oper} {pl:Plan} {E:Nat->Env} {T:Nat->Store} {ac:Nat->Ent} {a0:Act} {M0:Mem} {Q:Exit->Act->World->Prop}
abbrev Lst (listed:Array Bool) (q:Nat):Prop:=listed.getD q false=true
theorem Qxq (hr:RunV C I ops pl E T ac) (hs:Jb ops pl=true) (hC:Wf P C) (hIn:InlOK P C I) (hQ:∀a M,(∀L,(∀q,q<ops.size->L q)->Inv ops E T ac a0 M0 L a M->Q .normal a M.w)) :
  ∀(fuel:Nat) (listed:Array Bool) (a:Act) (M:Mem),listed.size=ops.size->listed.toList.count false=fuel->Inv ops E T ac a0 M0 (Lst listed) a M->wpAny P .any ops Q fuel listed a M.w:=by
 intro fuel
 have hfin:∀(listed:Array Bool) (a:Act) (M:Mem),listed.size=ops.size->Inv ops E T ac a0 M0 (Lst listed) a M->Region.ready .any ops listed=[]->Q .normal a M.w:=by
  intro listed a M hsz hI hrd
  refine hQ a M _ (λq hq=>?_) hI
  have key:∀q,q<ops.size->Lst listed q:=by
   intro q
   induction q using Nat.strongRecOn with
   |
    _ q ih=>
    intro hq
    by_cases h:listed.getD q false=true
    ·exact h
    ·exfalso
     have ho:ops[q]? = some (ops[q]'hq):=Array.getElem?_eq_getElem hq
     have hmem:q∈Region.ready .any ops listed:=mem_ready.2 ⟨by
      have:q<listed.size:=by omega
      simp [Array.getD_eq_getD_getElem?,this] at h ⊢;exact h,_,ho,λe he hb=>by
       have:=(planOK_spec hs ho).1 e he hb
       exact ih e.on this (by omega)⟩
     rw [hrd] at hmem;simp at hmem
  exact key q hq
 induction fuel with
 |
  zero=>
  intro listed a M hsz hcount hI
  have hrd:Region.ready .any ops listed=[]:=by
   rw [List.eq_nil_iff_forall_not_mem]
   intro j hj
   obtain ⟨h0,o,ho,_⟩:=mem_ready.1 hj
   have hj':j<ops.size:=(Array.getElem?_eq_some_iff.1 ho).1
   have:j<listed.size:=by omega
   have hf:listed.toList[j]? = some false:=by simp [Array.getD_eq_getD_getElem?,this] at h0 ⊢;exact h0
   have:=List.count_pos_iff.2 (List.mem_of_getElem? hf)
   omega
  exact ⟨hrd,hfin listed a M hsz hI hrd⟩
 |
  succ fuel ih=>
  intro listed a M hsz hcount hI
  refine ⟨hfin listed a M hsz hI,λi hi=>?_⟩
  obtain ⟨h0,o,ho,hall⟩:=mem_ready.1 hi
  have hi':i<ops.size:=(Array.getElem?_eq_some_iff.1 ho).1
  have hil:i<listed.size:=by omega
  have hf:listed.toList[i]? = some false:=by simp [Array.getD_eq_getD_getElem?,hil] at h0 ⊢;exact h0
  have ht:Turn ops (Lst listed) i o:=⟨ho,by simp [Lst,Array.getD_eq_getD_getElem?,hil] at h0 ⊢;exact h0,λe he hb=>hall e he hb⟩
  have hset:∀{a' M'},Inv ops E T ac a0 M0 (λq=>Lst listed q\/q=i) a' M'->wpAny P .any ops Q fuel (listed.setIfInBounds i true) a' M'.w:=λ{a' M'} hI'=>by
   refine ih _ a' M' (by simpa using hsz) ?_ ?_
   ·have:=Qw5 hf
    simp only [Array.toList_setIfInBounds]
    omega
   ·have hfun:(λq=>Lst listed q\/q=i)=Lst (listed.setIfInBounds i true):=by
     funext q
     simp only [Lst,Array.getD_eq_getD_getElem?]
     by_cases e:q=i
     ·subst e;simp [hil]
     ·rw [Array.getElem?_setIfInBounds_ne (λh=>e h.symm)];simp [e]
    rw [<-hfun];exact hI'
  unfold wpOp
  simp only [ho]
  have hgw:∀b,guardV ops o (E i)=some b->Region.wanted o (yielded ops a.tmps)=b:=λb hb=>Qij hb λj want g hg hgs=>Qkn hr hs hI ht (by
   have:g∈o.looksAt ops:=by
    unfold Oper.looksAt
    rw [hg]
    refine List.mem_append_right _ ?_
    unfold guardSlot at hgs
    simp [hgs]
   exact this)
  rcases (hr i o ho).way with ⟨hg,_⟩|⟨hg,_⟩
  ·rw [if_pos (hgw true hg)]
   exact .inl (Qwy hr hs hC hIn hI ht hg λa' M' hI'=>hset hI')
  ·rw [if_neg (by rw [hgw false hg];simp)]
   exact hset (Qrj hr hs hI ht hg)
theorem Qwv (hC:Wf P C) (hIn:InlOK P C I) {id:Nat} {env env':Env} {S S':Store} {a:Act} {M:Mem} (hN:Now M S) (he:Qv M a.tmps env) (hs:Jb ops pl=true)
  (h:C.evOpsD (I (Env×Store)) ops pl ops.toList 0 [] env S (λe s=>some (e,s))=some (env',S'))
  (hQ:∀a' M',Step M M'->Now M' S'->Qv M' a'.tmps env'->a'.defers=a.defers->S.length<=S'.length->Q .normal a' M'.w):(Code.region id ops true).wp P Q a M.w:=by
 obtain ⟨E,T,ac,rfl,rfl,hE,hT,htr⟩:=Qlh hIn _ _ _ _ _ h
 have hr:RunV C I ops pl E T ac:=λk o hk=>by simpa using htr k o (by simpa using hk)
 simp only [Array.length_toList] at hE hT
 subst hE hT
 have hgrow:M.w.grownBy {M.w with drawn:=M.w.drawn+1} none:=⟨rfl,rfl,rfl,Nat.le_refl _,λ_ _ _=>rfl⟩
 have hp:=post_world hN.ok (T 0) hgrow
 have hN1:=hp.now hN
 refine wp_region_any hC.mixed (Qxq (a0:=a) (M0:=M) hr hs hC hIn (λa' M' L hL hI=>?_) ops.size _ a {M with w:={M.w with drawn:=M.w.drawn+1} } (by simp) (by simp) ?_)
 ·have hmono:(T 0).length<=(T ops.size).length:=Qau hr hI ops.size (Nat.zero_le _) (Nat.le_refl _) λq _ hq _=>hL q hq
  refine hQ a' M' hI.step ⟨hI.ok,λid=>hI.store id ops.size (Nat.le_refl _) (λq hq _=>hL q hq) (λq h1 h2=>by omega),λid hid=>?_⟩ ⟨?_,λt ht=>?_⟩ hI.defs hmono
  ·cases hμ:M'.μ id with
   |none=>rfl
   |
    some l=>
    exfalso
    rcases hI.alloc id (by rw [hμ];rfl) with h|⟨q,hq,_,h1,h2⟩
    ·omega
    ·have:=Qau hr hI (i:=q+1) ops.size (by omega) (Nat.le_refl _) λr _ hr' _=>hL r hr'
     omega
  ·rw [Qb3 hr _ (Nat.le_refl _)];exact hI.size
  ·have:=hI.slot t (by rw [Qb3 hr _ (Nat.le_refl _)] at ht;exact ht) λq oq hq _=>hL q (Array.getElem?_eq_some_iff.1 hq).1
   rw [Zl,List.getElem?_eq_getElem ht] at this
   exact this
 ·refine ⟨λj oj hj hL=>?_,hN1.ok,hp.step,rfl,he.1,λt ht hw=>?_,λt ht _=>?_,λid j hj h1 h2=>?_,λid hid=>?_,λq hq hL=>?_⟩
  ·have:=(Array.getElem?_eq_some_iff.1 hj).1
   simp [Lst,Array.getD_eq_getD_getElem?,this] at hL
  ·rw [Qe9 hr ops.size (i:=0) (Nat.zero_le _) (Nat.le_refl _) λq oq _ hq hqo hd=>by
    have:=hw q oq hqo hd
    simp [Lst,Array.getD_eq_getD_getElem?,hq] at this]
   have:=hp.step.rep hN.ok (he.2 t ht)
   rw [Zl,List.getElem?_eq_getElem ht]
   exact this
  ·have:=hp.step.rep hN.ok (he.2 t ht)
   rw [Zl,List.getElem?_eq_getElem ht]
   exact this
  ·rw [hN1.is id]
   exact (Qhw hr j (Nat.zero_le _) hj λq _ hq hw=>by
    have:=h1 q hq hw
    simp [Lst,Array.getD_eq_getD_getElem?,show q<ops.size by omega] at this).symm
  ·left
   rcases Nat.lt_or_ge id (T 0).length with h|h
   ·exact h
   ·rw [hN1.fresh id h] at hid;simp at hid
  ·simp [Lst,Array.getD_eq_getD_getElem?,hq] at hL
end
abbrev Out:=X×Env×Store
abbrev KK:Kont Out:=λe env S=>some (e,env,S)
abbrev Bk {R:Type} (f:Option Out) (K:Kont R):Option R:=f.bind λp=>K p.1 p.2.1 p.2.2
theorem Qpt {R:Type} (k:Env->Store->Option Out) (K:Kont R) (p:Out):Kont.seq (λenv S=>Bk (k env S) K) K p.1 p.2.1 p.2.2=Bk (Kont.seq k KK p.1 p.2.1 p.2.2) K:=by
 obtain ⟨e,env,S⟩:=p
 cases e<;>rfl
theorem Ym {R:Type} (id:Nat) (K:Kont R) (p:Out):Kont.block id K p.1 p.2.1 p.2.2=Bk (Kont.block id KK p.1 p.2.1 p.2.2) K:=by
 obtain ⟨e,env,S⟩:=p
 cases e<;>simp only [Kont.block]<;>try rfl
 split<;>rfl
theorem Jn {R:Type} (f:Option Out) (g:Kont Out) (K:Kont R):Bk (Bk f g) K=Bk f λe env S=>Bk (g e env S) K:=by cases f<;>rfl
theorem Jf {R:Type} {f:Option Out} {K K':Kont R} (h:∀p:Out,K p.1 p.2.1 p.2.2=K' p.1 p.2.1 p.2.2):Bk f K=Bk f K':=by
 cases f with
 |none=>rfl
 |some p=>exact h p
section
variable {P:Program} {C:Ctx} {I:InlP} (hI:InlOK P C I)
include hI
theorem Qi9 {R:Type} (fid base id:Nat) (ops:Array Oper) (draw:Bool) (env:Env) (S:Store) (K:Kont R):C.evK (I R) fid base (.region id ops draw) env S K=Bk (C.evK (I Out) fid base (.region id ops draw) env S KK) K:=by
 simp only [Ctx.evK]
 cases draw<;>simp only [Zd,Zc]
 ·rw [Qco hI,Qco hI false ops ops.toList env S λenv S=>KK .normal env S]
  cases C.evOps (I (Env×Store)) false ops ops.toList env S λe s=>some (e,s)<;>rfl
 ·split
  ·rw [Qc9 hI,Qc9 hI ops _ ops.toList 0 [] env S λenv S=>KK .normal env S]
   cases C.evOpsD (I (Env×Store)) ops (C.draws fid id) ops.toList 0 [] env S λe s=>some (e,s)<;>rfl
  ·rfl
theorem Qx {R:Type} (fid base:Nat):∀(c:Code) (env:Env) (S:Store) (K:Kont R),C.evK (I R) fid base c env S K=Bk (C.evK (I Out) fid base c env S KK) K
 |.skip,env,S,K=>rfl
 |.region id ops draw,env,S,K=>Qi9 hI fid base id ops draw env S K
 |
  .seq a b,env,S,K=>by
  simp only [Ctx.evK]
  rw [Qx fid base a,Qx (R:=Out) fid base a env S (Kont.seq (λenv S=>C.evK (I Out) fid base b env S KK) KK),Jn]
  rw [show (λenv S=>C.evK (I R) fid base b env S K)=λenv S=>Bk (C.evK (I Out) fid base b env S KK) K from funext λenv=>funext λS=>Qx fid base b env S K]
  exact Jf (Qpt _ K)
 |
  .cond c t e,env,S,K=>by
  simp only [Ctx.evK]
  split
  ·rename_i b _
   cases b<;>simp only [Zd,Zc]
   ·exact Qx fid base e env S K
   ·exact Qx fid base t env S K
  ·rfl
 |
  .block id (.loop b),env,S,K=>by
  simp only [Ctx.evK]
  generalize C.unroll fid id=n
  generalize (env,S)=st
  revert st
  induction n with
  |
   zero=>
   intro st
   simp only [Qav]
   split
   ·rename_i m out _
    cases m with
    |none=>rfl
    |some o=>exact Ym id K (out o)
   ·rename_i m out out' _
    cases m with
    |none=>rfl
    |
     some o=>cases o with
     |inl o=>exact Ym id K (out o)
     |inr o=>exact Ym id K (out' o)
   ·rfl
  |
   succ n ih=>
   intro st
   simp only [Qav]
   rw [Qx fid base b,Qx (R:=Out) fid base b st.1 st.2 (Kont.seq _ (Kont.block id KK)),Jn]
   refine Jf λp=>?_
   obtain ⟨e,env,S⟩:=p
   cases e with
   |normal=>exact ih (env,S)
   |exit i=>exact Ym id K (.exit i,env,S)
   |goto l=>exact Ym id K (.goto l,env,S)
   |ret=>rfl
 |
  .block id .skip,env,S,K=>by
  simp only [Ctx.evK];rfl
 |
  .block id (.region i ops draw),env,S,K=>by
  show C.evK (I R) fid base (.region i ops draw) env S (Kont.block id K)=Bk (C.evK (I Out) fid base (.region i ops draw) env S (Kont.block id KK)) K
  rw [Qi9 hI,Qi9 (R:=Out) hI fid base i ops draw env S (Kont.block id KK),Jn]
  exact Jf (Ym id K)
 |
  .block id (.seq a b),env,S,K=>by
  show C.evK (I R) fid base (.seq a b) env S (Kont.block id K)=Bk (C.evK (I Out) fid base (.seq a b) env S (Kont.block id KK)) K
  rw [Qx fid base (.seq a b),Qx (R:=Out) fid base (.seq a b) env S (Kont.block id KK),Jn]
  exact Jf (Ym id K)
 |
  .block id (.cond a b c),env,S,K=>by
  show C.evK (I R) fid base (.cond a b c) env S (Kont.block id K)=Bk (C.evK (I Out) fid base (.cond a b c) env S (Kont.block id KK)) K
  rw [Qx fid base (.cond a b c),Qx (R:=Out) fid base (.cond a b c) env S (Kont.block id KK),Jn]
  exact Jf (Ym id K)
 |
  .block id (.block i b),env,S,K=>by
  show C.evK (I R) fid base (.block i b) env S (Kont.block id K)=Bk (C.evK (I Out) fid base (.block i b) env S (Kont.block id KK)) K
  rw [Qx fid base (.block i b),Qx (R:=Out) fid base (.block i b) env S (Kont.block id KK),Jn]
  exact Jf (Ym id K)
 |
  .block id (.exit i),env,S,K=>by
  show Kont.block id K (.exit i) env S=Bk (Kont.block id KK (.exit i) env S) K
  exact Ym id K (.exit i,env,S)
 |.block id .ret,env,S,K=>rfl
 |.block id (.rangeFunc ..),env,S,K=>rfl
 |.block id (.scope ..),env,S,K=>rfl
 |.block id (.label l),env,S,K=>rfl
 |
  .block id (.goto l),env,S,K=>by
  show Kont.block id K (.goto l) env S=Bk (Kont.block id KK (.goto l) env S) K
  exact Ym id K (.goto l,env,S)
 |.block id (.refuse ..),env,S,K=>rfl
 |.ret,env,S,K=>rfl
 |.exit id,env,S,K=>rfl
 |.loop _,env,S,K=>rfl
 |.rangeFunc ..,env,S,K=>rfl
 |.scope _,env,S,K=>rfl
 |.label _,env,S,K=>rfl
 |.goto _,env,S,K=>rfl
 |.refuse _,env,S,K=>rfl
termination_by c=>SizeOf.sizeOf c
theorem Qpu {R:Type} (fid base:Nat) (c:Code) (K:Kont R):∀(n:Nat) (p:Out),C.gotoK (I R) fid base c K n p.1 p.2.1 p.2.2=Bk (C.gotoK (I Out) fid base c KK n p.1 p.2.1 p.2.2) K
 |0,(.normal,env,S)=>rfl
 |0,(.exit i,env,S)=>rfl
 |0,(.ret,env,S)=>rfl
 |0,(.goto l,env,S)=>rfl
 |n+1,(.normal,env,S)=>rfl
 |n+1,(.exit i,env,S)=>rfl
 |n+1,(.ret,env,S)=>rfl
 |
  n+1,(.goto l,env,S)=>by
  simp only [Ctx.gotoK]
  split
  ·split
   ·rename_i rest _
    rw [Qx hI,Qx hI (R:=Out) fid base rest env S (C.gotoK (I Out) fid base c KK n),Jn]
    exact Jf (Qpu fid base c K n)
   ·rfl
  ·rfl
theorem Qob {R:Type} (fid base:Nat) (c:Code) (env:Env) (S:Store) (K:Kont R):C.evS (I R) fid base c env S K=Bk (C.evS (I Out) fid base c env S KK) K:=by
 unfold Ctx.evS
 rw [Qx hI,Qx hI (R:=Out) fid base c env S (C.gotoK (I Out) fid base c KK _),Jn]
 exact Jf (Qpu hI fid base c K _)
theorem Qtz {R:Type} (fid base:Nat) (c:Code) (env:Env) (S:Store) (K:Kont R):C.evB (I R) fid base c env S K=Bk (C.evB (I Out) fid base c env S KK) K:=by
 unfold Ctx.evB
 split
 ·exact Qob hI fid base _ env S K
 ·rename_i x c
  rw [Qx hI,Qx hI (R:=Out) fid base x env S (Kont.seq (λenv S=>C.evS (I Out) fid base c env S KK) KK),Jn]
  rw [show (λenv S=>C.evS (I R) fid base c env S K)=λenv S=>Bk (C.evS (I Out) fid base c env S KK) K from funext λenv=>funext λS=>Qob hI fid base c env S K]
  exact Jf (Qpt _ K)
 ·exact Qx hI fid base c env S K
end
theorem Yu (C:Ctx) {R:Type} (env:Env) (S:Store):∀(rs:List ResultVar) (K:List V->Option R),C.resK env S rs K=(C.resK env S rs some).bind K
 |[],K=>rfl
 |
  .tmp t::r,K=>by
  simp only [Ctx.resK]
  rw [Yu C env S r,Yu C env S r λvs=>some (env.getD t .undef::vs)]
  cases C.resK env S r some<;>rfl
 |
  .cell a t::r,K=>by
  simp only [Ctx.resK]
  rw [Qbj,Qbj C t S _ λv=>C.resK env S r λvs=>some (v::vs)]
  cases C.loadV t S (env.getD a .undef) some with
  |none=>rfl
  |
   some v=>
   simp only [Zb]
   rw [Yu C env S r,Yu C env S r λvs=>some (v::vs)]
   cases C.resK env S r some<;>rfl
theorem Qhb {a b:Nat}:Nat.blt a b=true↔a<b:=by rw [Nat.blt_eq]
theorem Qon {M:Mem} (hM:M.ok) {S S1:Store} (hi:M.is S1) (hc:∀id ver,contentOf S1 id ver=contentOf S id ver) {tmps:Array Value}:∀(ts:List Nat) (env:Env),Qv M tmps env->(∀t∈ts,still S1 (env.getD t .undef))->Qv M tmps (immSlots ts env S)
 |[],env,he,_=>he
 |
  t::ts,env,he,hs=>by
  simp only [immSlots]
  have hst:=hs t (by simp)
  have hstill:still S1 (immOf S (env.getD t .undef)):=by
   have hrep:=he.get (a:=⟨tmps,[]⟩) t
   generalize env.getD t .undef=v at hst hrep
   cases v<;>simp only [immOf]<;>try exact hst
   ·split<;>trivial
   ·rename_i id ver lo n
    split
    ·rename_i c hcc
     obtain ⟨_,_,hp⟩:=Jy hrep
     obtain ⟨_,m,_,_,_,hm,_⟩:=hp c (by rw [hi id];exact (hc id ver).trans hcc)
     cases c<;>simp [lenV] at hm<;>trivial
    ·trivial
  refine Qon hM hi hc ts _ ⟨by simpa using he.1,λu hu=>?_⟩ λu hu=>?_
  ·rw [List.getElem_set]
   split
   ·rename_i e
    subst e
    have hu':t<env.length:=by simpa using hu
    have h1:=Qhd hM hi (he.get (a:=⟨tmps,[]⟩) t) hst
    rwa [Qdv hc] at h1
   ·exact he.2 u (by simpa using hu)
  ·rw [Zl,List.getElem?_set]
   split
   ·split
    ·exact hstill
    ·trivial
   ·rw [<-Zl];exact hs u (by simp [hu])
theorem Qcx (base n:Nat) (ks:List Nat) (S:Store):∀(bs:Store) (i:Nat),(Q6 base n ks S i bs).length=bs.length/\∀k,(Q6 base n ks S i bs)[k]? = (bs[k]?).map λb=>bif Nat.blt (i+k) base then normBlk base n S true b else if ks.contains (i+k) then normBlk base n S false b else .dead
 |[],i=>⟨rfl,λk=>by simp [Q6]⟩
 |
  b::bs,i=>by
  obtain ⟨h1,h2⟩:=Qcx base n ks S bs (i+1)
  refine ⟨by simp [Q6,h1],λk=>?_⟩
  cases k with
  |zero=>simp [Q6]
  |
   succ k=>
   simp only [Q6,List.getElem?_cons_succ,h2 k]
   rw [show i+1+k=i+(k+1) by omega]
theorem Qoq {base n:Nat} {S:Store} {old:Bool} {b:Blk}:(normBlk base n S old b).own=b.own:=by cases b<;>rfl
theorem Qpp {base n:Nat} {S:Store} {old:Bool} {b:Blk}:(normBlk base n S old b).fix=b.fix:=by
 cases b<;>try rfl
 rename_i g _ _;cases g<;>rfl
theorem Qn8 {base n:Nat} {S:Store} {b:Blk} (ver:Nat):contentB (normBlk base n S true b) ver=contentB b ver:=by cases b<;>rfl
theorem Qoh {base n:Nat} {S:Store} {b:Blk}:verB (normBlk base n S true b)=verB b:=by cases b<;>rfl
theorem Qd7 {O:Nat->Prop} {w:World} {cv:Value} {v:V} (h:Rep0 O w cv v) (hc:contentVal v=true):Rep0 O w cv (unexact v):=by
 cases h with
 |
  slice A n cap v fl cf hf hx hle hm hcl ho hr=>
  exact .slice A n cap _ fl cf (by cases v<;>first|exact hf|(simp [contentVal] at hc)) (λh=>by cases v<;>simp [contentVal,unexact,isExact] at hc h) hle hm hcl ho hr
 |_=>simp [contentVal] at hc
theorem Qbo {M M':Mem} (id:Nat) (hμ:M'.μ id=M.μ id) (hc:∀ver,contentB (M'.S id) ver=contentB (M.S id) ver) (hv:verB (M'.S id)=verB (M.S id)) (hf:(M'.S id).fix=(M.S id).fix) {cv:Value} {v:V} (hid:refs1 v=[id]) (h:M.Ref cv v):M'.Ref cv v:=by
 refine ⟨h.1,?_⟩
 have h2:=h.2
 cases v<;>simp only [refs1] at hid<;>try (simp at hid;done)
 all_goals
  simp only [List.cons.injEq,and_true] at hid
  subst hid
  simp only [Mem.Ref1,verLe,hμ,hc,hv,hf] at h2 ⊢
  exact h2
theorem Qoc {M:Mem} {cv:Value} {v:V} (h:M.Ref cv v):∃id,refs1 v=[id]/\(M.μ id).isSome=true:=by
 have h2:=h.2
 cases v<;>simp only [Mem.Ref1] at h2<;>try exact h2.elim
 ·exact ⟨_,rfl,h2.1⟩
 ·exact ⟨_,rfl,h2.1.1⟩
 ·exact ⟨_,rfl,h2.1.1⟩
 ·exact ⟨_,rfl,h2.1.1⟩
section
variable {M0 M M1:Mem} {S S1:Store} {base n:Nat} {ks:List Nat}
def Qz (M:Mem) (n:Nat) (S2:Store):Mem:={M with μ:=λid=>if id<n then M.μ id else none,S:=λid=>S2.getD id .dead}
theorem normM_S (hi:M.is S) (id:Nat):(Qz M n (Q6 base n ks S 0 (S.take n))).S id=.dead\/(id<n/\∃old,(id<base->old=true)/\(Qz M n (Q6 base n ks S 0 (S.take n))).S id=normBlk base n S old (M.S id)):=by
 simp only [Qz,Zl,(Qcx base n ks S (S.take n) 0).2 id,List.getElem?_take,Nat.zero_add,hi id]
 by_cases hlt:id<n
 ·simp only [hlt,if_true,true_and]
  cases hk:S[id]? with
  |none=>exact .inl rfl
  |
   some b=>
   simp only [Option.map_some,Option.getD_some]
   cases hb:Nat.blt id base with
   |true=>exact .inr ⟨true,λ_=>rfl,rfl⟩
   |
    false=>
    simp only [Zc]
    split
    ·exact .inr ⟨false,λh=>by have:=Qhb.2 h;rw [hb] at this;simp at this,rfl⟩
    ·exact .inl rfl
 ·simp [hlt]
theorem Qt4 (hi:M.is S) (hbn:base<=n) {id:Nat} (h:id<base):(Qz M n (Q6 base n ks S 0 (S.take n))).S id=normBlk base n S true (M.S id):=by
 simp only [Qz,Zl,(Qcx base n ks S (S.take n) 0).2 id,List.getElem?_take,Nat.zero_add,hi id]
 have hb:Nat.blt id base=true:=Qhb.2 h
 rw [if_pos (by omega)]
 cases hk:S[id]? with
 |none=>rfl
 |some b=>simp only [Option.map_some,Option.getD_some,hb,Zd]
theorem Qvd {id ver:Nat} (h:cur S id ver=true):verB (S.getD id .dead)=some ver:=by
 unfold cur at h
 split at h
 ·rename_i e;rw [e];simpa [verB] using h
 ·rename_i e;rw [e];simpa [verB] using h
 ·simp at h
theorem Qov (hi:M.is S) {id ver:Nat} (hc:cur S id ver=true):verLe ((Qz M n (Q6 base n ks S 0 (S.take n))).S id) (bif Nat.blt id base then ver else 0) /\
  ∀c,contentB ((Qz M n (Q6 base n ks S 0 (S.take n))).S id) (bif Nat.blt id base then ver else 0)=some c->contentB (M.S id) ver=some c:=by
 have hv:=Qvd hc
 rw [<-hi id] at hv
 rcases normM_S (base:=base) (n:=n) (ks:=ks) hi id with h|⟨hlt,old,hold,h⟩
 ·rw [h];exact ⟨λv hv=>by simp [verB] at hv,λc hc=>by simp [contentB] at hc⟩
 ·rw [h]
  cases hb:Nat.blt id base with
  |
   true=>
   have:=hold (Qhb.1 hb);subst this
   simp only [Zd]
   exact ⟨λv hv'=>by rw [Qoh,hv] at hv';simp at hv';omega,λc hc=>by rwa [Qn8] at hc⟩
  |
   false=>
   simp only [Zc]
   refine ⟨λv _=>Nat.zero_le _,λc hc=>?_⟩
   cases hk:M.S id<;>rw [hk] at hc hv<;>simp [verB] at hv<;>simp [normBlk,contentB] at hc ⊢
   ·exact ⟨hv,hc.2⟩
   ·exact ⟨hv,hc.2⟩
theorem Qfd (hi:M.is S) {cv:Value} {v:V} (h:Rep M cv v):Rep (Qz M n (Q6 base n ks S 0 (S.take n))) cv (norm1 base n S v):=by
 have undef:∀{M:Mem} {cv:Value},Rep M cv .undef:=.imm (.undef _)
 have plain:(∀cv,¬M.Ref cv v)->(∀cs,v≠.agg cs)->(∀cs,v≠.tup cs)->(∀f cs,v≠.func f cs)->(∀t u,v≠.iface t u)->Rep0 M.O M.w cv v:=λh1 h2 h3 h4 h5=>by
  cases h with
  |imm h=>exact h
  |ref h=>exact (h1 _ h).elim
  |agg _ cs=>exact (h2 cs rfl).elim
  |tup _ cs=>exact (h3 cs rfl).elim
  |func f _ cs=>exact (h4 f cs rfl).elim
  |iface t _ u=>exact (h5 t u rfl).elim
 cases v<;>simp only [norm1]<;>try (first|exact undef|exact .imm (plain (λcv h=>h.2) (λ_ h=>by simp at h) (λ_ h=>by simp at h) (λ_ _ h=>by simp at h) (λ_ _ h=>by simp at h)))
 ·exact .imm (Qd7 (v:=.ints _ _ _) (plain (λcv h=>h.2) (λ_ h=>by simp at h) (λ_ h=>by simp at h) (λ_ _ h=>by simp at h) (λ_ _ h=>by simp at h)) rfl)
 ·exact .imm (Qd7 (v:=.strs _ _) (plain (λcv h=>h.2) (λ_ h=>by simp at h) (λ_ h=>by simp at h) (λ_ _ h=>by simp at h) (λ_ _ h=>by simp at h)) rfl)
 ·exact .imm (Qd7 (v:=.recs _ _ _) (plain (λcv h=>h.2) (λ_ h=>by simp at h) (λ_ h=>by simp at h) (λ_ _ h=>by simp at h) (λ_ _ h=>by simp at h)) rfl)
 ·rename_i id off
  split
  ·rename_i hlt
   obtain ⟨h1,h2,h3⟩:=Yg h
   refine .ref ⟨h1,?_,λhf=>?_⟩
   ·simp only [Qz,hlt,if_true];exact h2
   ·have hμ:(Qz M n (Q6 base n ks S 0 (S.take n))).μ id=M.μ id:=by simp only [Qz,hlt,if_true]
    rw [hμ]
    refine h3 ?_
    rcases normM_S (base:=base) (n:=n) (ks:=ks) hi id with h|⟨_,old,_,h⟩
    ·rw [h] at hf;simp [Blk.fix] at hf
    ·rwa [h,Qpp] at hf
  ·exact undef
 ·rename_i id ver
  split
  ·rename_i hlt
   split
   ·rename_i hc
    obtain ⟨h1,⟨h2,h3⟩,h4⟩:=Jo h
    obtain ⟨h5,h6⟩:=Qov (base:=base) (n:=n) (ks:=ks) hi hc
    have hμ:(Qz M n (Q6 base n ks S 0 (S.take n))).μ id=M.μ id:=by simp only [Qz,hlt,if_true]
    refine .ref ⟨h1,⟨by rw [hμ];exact h2,h5⟩,λc hcc=>?_⟩
    rw [hμ];exact h4 c (h6 c hcc)
   ·exact undef
  ·exact undef
 ·rename_i id ver lo k
  split
  ·rename_i hlt
   split
   ·rename_i hc
    obtain ⟨h1,⟨h2,h3⟩,h4⟩:=Jy h
    obtain ⟨h5,h6⟩:=Qov (base:=base) (n:=n) (ks:=ks) hi hc
    have hμ:(Qz M n (Q6 base n ks S 0 (S.take n))).μ id=M.μ id:=by simp only [Qz,hlt,if_true]
    refine .ref ⟨h1,⟨by rw [hμ];exact h2,h5⟩,λc hcc=>?_⟩
    rw [hμ];exact h4 c (h6 c hcc)
   ·exact undef
  ·exact undef
 ·rename_i f cs
  cases cs with
  |
   nil=>
   obtain ⟨cvs,rfl,hl,_⟩:=J3 h
   have:cvs = #[]:=by simpa using hl
   subst this;exact .imm (.func f)
  |cons=>exact undef
theorem Qvl (hi:M.is S) {cv:Value} {v:V} (h:Rep M cv v):Rep (Qz M n (Q6 base n ks S 0 (S.take n))) cv (Qjk base n S v):=by
 cases v with
 |
  agg cs=>
  obtain ⟨cvs,rfl,hl,ho,hr⟩:=Wn h
  exact .agg cvs _ (by simpa using hl) (λj hj=>ho j (by simpa using hj)) λj hj=>by
   rw [List.getElem_map];exact Qfd hi (hr j (by simpa using hj))
 |
  func f cs=>
  obtain ⟨cvs,rfl,hl,hr⟩:=J3 h
  exact .func f cvs _ (by simpa using hl) λj hj=>by
   rw [List.getElem_map];exact Qfd hi (hr j (by simpa using hj))
 |_=>exact Qfd hi h
theorem Qrt (hM:M.ok) (hi:M.is S):(Qz M n (Q6 base n ks S 0 (S.take n))).ok where
 blk id loc h:=by
  have hμ:id<n/\M.μ id=some loc:=by
   simp only [Qz] at h
   split at h
   ·exact ⟨‹_›,h⟩
   ·simp at h
  have hB:=hM.blk id loc hμ.2
  rcases normM_S (base:=base) (n:=n) (ks:=ks) hi id with h|⟨_,old,_,h⟩
  ·rw [h];trivial
  ·rw [h]
   cases hk:M.S id<;>rw [hk] at hB<;>simp only [normBlk]
   ·obtain ⟨b,o,cap,h1,h2,h3,hsh,h4⟩:=hB
    refine ⟨b,o,cap,h1,h2,h3,⟨hsh.1,by simpa [Qz] using hsh.2⟩,λj hj=>?_⟩
    obtain ⟨cv,h5,h6,h7,h8⟩:=h4 j (by simpa using hj)
    exact ⟨cv,h5,h6,by rw [List.getElem_map];exact Qfd hi h7,h8⟩
   ·exact hB
   ·exact hB
   ·exact hB
   ·trivial
 inj id id' b o o' cap cap' h1 h2 h3 h4:=by
  have key:∀i,((Qz M n (Q6 base n ks S 0 (S.take n))).S i).own=true->(M.S i).own=true:=λi h=>by
   rcases normM_S (base:=base) (n:=n) (ks:=ks) hi i with e|⟨_,old,_,e⟩
   ·rw [e] at h;simp [Blk.own] at h
   ·rwa [e,Qoq] at h
  have key2:∀i l,(Qz M n (Q6 base n ks S 0 (S.take n))).μ i=some l->M.μ i=some l:=λi l h=>by
   simp only [Qz] at h
   split at h
   ·exact h
   ·simp at h
  exact hM.inj id id' b o o' cap cap' (key id h1) (key id' h2) (key2 _ _ h3) (key2 _ _ h4)
 low:=hM.low
theorem Qr8 (hb:∀id,(M0.μ id).isSome=true->id<base) (hbn:base<=n) (hi:M.is S) (hst:Step M0 M):Step M0 (Qz M n (Q6 base n ks S 0 (S.take n))) where
 size:=hst.size
 os:=hst.os
 tape:=hst.tape
 output:=hst.output
 keep:=hst.keep
 osub:=hst.osub
 own' b hlt h:=by
  refine hst.own' b hlt ?_
  obtain ⟨id,o,cap,h1,h2⟩:=h
  refine ⟨id,o,cap,?_,?_⟩
  ·rcases normM_S (base:=base) (n:=n) (ks:=ks) hi id with e|⟨_,old,_,e⟩
   ·rw [e] at h1;simp [Blk.own] at h1
   ·rwa [e,Qoq] at h1
  ·simp only [Qz] at h2
   split at h2
   ·exact h2
   ·simp at h2
 refs cv v h:=by
  obtain ⟨id,hid,hsome⟩:=Qoc h
  have hlt:=hb id hsome
  have h1:=Qt4 (ks:=ks) hi hbn hlt
  refine Qbo id ?_ (λver=>?_) ?_ ?_ hid (hst.refs cv v h)
  ·simp only [Qz];rw [if_pos (by omega)]
  ·rw [h1,Qn8]
  ·rw [h1,Qoh]
  ·rw [h1,Qpp]
theorem keepEnv_get (keep:List Nat):∀(env:Env) (i:Nat),(W7 keep i env).length=env.length/\∀k (h:k<(W7 keep i env).length) (h':k<env.length),(W7 keep i env)[k]=env[k]\/(W7 keep i env)[k]=.undef
 |[],i=>⟨rfl,λk h=>by simp [W7] at h⟩
 |
  v::vs,i=>by
  obtain ⟨h1,h2⟩:=keepEnv_get keep vs (i+1)
  refine ⟨by simp [W7,h1],λk h h'=>?_⟩
  cases k with
  |
   zero=>
   simp only [W7,List.getElem_cons_zero]
   split
   ·exact .inl rfl
   ·exact .inr rfl
  |succ k=>simpa [W7] using h2 k (by simpa [W7] using h) (by simpa using h')
theorem Qez (keep:List Nat×List Nat×List Nat) (hb:∀id,(M0.μ id).isSome=true->id<base) (hbn:base<=n) (hst:Step M0 M) (hN:Now M S) {tmps:Array Value} {env:Env} (he:Qv M tmps env) :
  ∃M':Mem,M'.w=M.w/\Step M0 M'/\Now M' (norm base n keep env S).2/\Qv M' tmps (norm base n keep env S).1/\(norm base n keep env S).2.length=min n S.length:=by
 obtain ⟨M1,hf⟩:=Qdh (keep.2.2.map λt=>env.getD t .undef) hN.ok hN.is
 have hN1:=hf.now hN
 have he1:Qv M1 tmps (immSlots keep.2.2 env S):=Qon hN1.ok hN1.is hf.content keep.2.2 env (hf.step.env hN.ok he) λt ht=>by
  have hm:∀u∈cellsOf (env.getD t .undef),still (Q9 S (keep.2.2.map λt=>env.getD t .undef)) u:=λu hu=>Qc6 _ (.inr ⟨_,List.mem_map_of_mem ht,hu⟩)
  by_cases ha:∃cs,env.getD t .undef=.agg cs
  ·obtain ⟨cs,h⟩:=ha;rw [h];trivial
  ·exact hm _ (by cases h:env.getD t .undef<;>simp [cellsOf]<;>exact (ha ⟨_,h⟩).elim)
 refine ⟨Qz M1 n (Q6 base n keep.2.1 (Q9 S (keep.2.2.map λt=>env.getD t .undef)) 0 ((Q9 S (keep.2.2.map λt=>env.getD t .undef)).take n)),hf.w,Qr8 hb hbn hN1.is (hst.trans hf.step),⟨Qrt hN1.ok hN1.is,λid=>rfl,λid hid=>?_⟩,⟨?_,λt ht=>?_⟩,?_⟩
 ·simp only [norm,Qbb,(Qcx base n _ _ _ _).1,List.length_take,hf.len] at hid
  simp only [Qz]
  split
  ·exact hN1.fresh id (by rw [hf.len];omega)
  ·rfl
 ·simp only [norm,Qbb,List.length_map,(keepEnv_get _ _ _).1];exact he1.1
 ·simp only [norm,Qbb,List.getElem_map]
  have hlen:=(keepEnv_get keep.1 (immSlots keep.2.2 env S) 0).1
  have ht':t<(W7 keep.1 0 (immSlots keep.2.2 env S)).length:=by simpa [norm,Qbb] using ht
  rcases (keepEnv_get keep.1 (immSlots keep.2.2 env S) 0).2 t ht' (by omega) with h|h
  ·rw [h];exact Qvl hN1.is (he1.2 t (by omega))
  ·rw [h];exact .imm (.undef _)
 ·simp only [norm,Qbb,(Qcx base n _ _ _ _).1,List.length_take,hf.len]
end
theorem Qhn {f t:Nat} {b:Blk}:(renB f t b).own=b.own:=by cases b<;>rfl
theorem Qbq {f t:Nat} {b:Blk}:(renB f t b).fix=b.fix:=by cases b<;>rfl
theorem Jv {f t:Nat} {b:Blk} (ver:Nat):contentB (renB f t b) ver=contentB b ver:=by cases b<;>rfl
theorem J9 {f t:Nat} {b:Blk}:verB (renB f t b)=verB b:=by cases b<;>rfl
section
variable {M0 M:Mem} {S:Store} {base f t:Nat}
def renM (M:Mem) (f t:Nat) (S2:Store):Mem:={M with μ:=λid=>if id=f then none else if id=t then M.μ f else M.μ id,S:=λid=>S2.getD id .dead}
theorem Qpn:(renS f t S).length=S.length:=by simp [renS]
theorem Qi4 (hf:f<S.length) (ht:t<S.length) (hne:f≠t) (id:Nat):(renS f t S).getD id .dead=if id=f then .dead else if id=t then renB f t (S.getD f .dead) else renB f t (S.getD id .dead):=by
 unfold renS
 rw [getD_set_store (by simpa using hf)]
 by_cases h:id=f
 ·rw [if_pos h,if_pos h]
 ·rw [if_neg h,if_neg h,getD_set_store (by simpa using ht)]
  by_cases h':id=t
  ·rw [if_pos h',if_pos h']
  ·rw [if_neg h',if_neg h']
   simp only [Zl,List.getElem?_map]
   cases S[id]?<;>rfl
variable (hi:M.is S) (hf:f<S.length) (ht:t<S.length) (hne:f≠t)
include hi hf ht hne
theorem renM_f:(renM M f t (renS f t S)).S f=.dead/\(renM M f t (renS f t S)).μ f=none:=by
 refine ⟨?_,by simp [renM]⟩
 show (renS f t S).getD f .dead=_
 rw [Qi4 hf ht hne,if_pos rfl]
theorem renM_t:(renM M f t (renS f t S)).S t=renB f t (M.S f)/\(renM M f t (renS f t S)).μ t=M.μ f:=by
 refine ⟨?_,by simp [renM,Ne.symm hne]⟩
 show (renS f t S).getD t .dead=_
 rw [Qi4 hf ht hne,if_neg (Ne.symm hne),if_pos rfl,hi f]
theorem Qaz {id:Nat} (h1:id≠f) (h2:id≠t):(renM M f t (renS f t S)).S id=renB f t (M.S id)/\(renM M f t (renS f t S)).μ id=M.μ id:=by
 refine ⟨?_,by simp [renM,h1,h2]⟩
 show (renS f t S).getD id .dead=_
 rw [Qi4 hf ht hne,if_neg h1,if_neg h2,hi id]
theorem Qfl {cv:Value} {v:V} (h:Rep M cv v):Rep (renM M f t (renS f t S)) cv (ren1 f t v):=by
 have undef:∀{M:Mem} {cv:Value},Rep M cv .undef:=.imm (.undef _)
 obtain ⟨t1,t2⟩:=renM_t hi hf ht hne
 have plain:(∀cv,¬M.Ref cv v)->(∀cs,v≠.agg cs)->(∀cs,v≠.tup cs)->(∀f cs,v≠.func f cs)->(∀t u,v≠.iface t u)->Rep0 M.O M.w cv v:=λh1 h2 h3 h4 h5=>by
  cases h with
  |imm h=>exact h
  |ref h=>exact (h1 _ h).elim
  |agg _ cs=>exact (h2 cs rfl).elim
  |tup _ cs=>exact (h3 cs rfl).elim
  |func f _ cs=>exact (h4 f cs rfl).elim
  |iface t _ u=>exact (h5 t u rfl).elim
 cases v<;>simp only [ren1]<;>try (first|exact undef|exact .imm (plain (λcv h=>h.2) (λ_ h=>by simp at h) (λ_ h=>by simp at h) (λ_ _ h=>by simp at h) (λ_ _ h=>by simp at h)))
 ·rename_i id off
  have h0:=Yg h
  split
  ·rename_i e;subst e
   refine .ref ⟨h0.1,?_⟩
   have h2:=h0.2
   simp only [Mem.Ref1,t1,t2,Qbq] at h2 ⊢
   exact h2
  ·rename_i e
   split
   ·exact undef
   ·rename_i e'
    obtain ⟨i1,i2⟩:=Qaz hi hf ht hne e e'
    exact .ref (Qbo id i2 (λver=>by rw [i1,Jv]) (by rw [i1,J9]) (by rw [i1,Qbq]) rfl h0)
 ·rename_i id ver ix off
  have h0:=Qcg h
  split
  ·rename_i e;subst e
   refine .ref ⟨h0.1,?_⟩
   have h2:=h0.2
   simp only [Mem.Ref1,verLe,t1,t2,Jv,J9] at h2 ⊢
   exact h2
  ·rename_i e
   split
   ·exact undef
   ·rename_i e'
    obtain ⟨i1,i2⟩:=Qaz hi hf ht hne e e'
    exact .ref (Qbo id i2 (λver=>by rw [i1,Jv]) (by rw [i1,J9]) (by rw [i1,Qbq]) rfl h0)
 ·rename_i id ver
  have h0:=Jo h
  split
  ·rename_i e;subst e
   refine .ref ⟨h0.1,?_⟩
   have h2:=h0.2
   simp only [Mem.Ref1,verLe,t1,t2,Jv,J9] at h2 ⊢
   exact h2
  ·rename_i e
   split
   ·exact undef
   ·rename_i e'
    obtain ⟨i1,i2⟩:=Qaz hi hf ht hne e e'
    exact .ref (Qbo id i2 (λver=>by rw [i1,Jv]) (by rw [i1,J9]) (by rw [i1,Qbq]) rfl h0)
 ·rename_i id ver lo len
  have h0:=Jy h
  split
  ·rename_i e;subst e
   refine .ref ⟨h0.1,?_⟩
   have h2:=h0.2
   simp only [Mem.Ref1,verLe,t1,t2,Jv,J9] at h2 ⊢
   exact h2
  ·rename_i e
   split
   ·exact undef
   ·rename_i e'
    obtain ⟨i1,i2⟩:=Qaz hi hf ht hne e e'
    exact .ref (Qbo id i2 (λver=>by rw [i1,Jv]) (by rw [i1,J9]) (by rw [i1,Qbq]) rfl h0)
 ·rename_i g cs
  cases cs with
  |
   nil=>
   obtain ⟨cvs,rfl,hl,_⟩:=J3 h
   have:cvs = #[]:=by simpa using hl
   subst this;exact .imm (.func g)
  |cons=>exact undef
theorem Qp4 {cv:Value} {v:V} (h:Rep M cv v):Rep (renM M f t (renS f t S)) cv (Qh7 f t v):=by
 cases v with
 |
  agg cs=>
  obtain ⟨cvs,rfl,hl,ho,hr⟩:=Wn h
  exact .agg cvs _ (by simpa using hl) (λj hj=>ho j (by simpa using hj)) λj hj=>by
   rw [List.getElem_map];exact Qfl hi hf ht hne (hr j (by simpa using hj))
 |
  func g cs=>
  obtain ⟨cvs,rfl,hl,hr⟩:=J3 h
  exact .func g cvs _ (by simpa using hl) λj hj=>by
   rw [List.getElem_map];exact Qfl hi hf ht hne (hr j (by simpa using hj))
 |_=>exact Qfl hi hf ht hne h
theorem renM_src (id:Nat):((renM M f t (renS f t S)).S id=.dead/\(renM M f t (renS f t S)).μ id=none)\/(id≠f/\(renM M f t (renS f t S)).S id=renB f t (M.S (if id=t then f else id))/\(renM M f t (renS f t S)).μ id=M.μ (if id=t then f else id)):=by
 by_cases h1:id=f
 ·subst h1;exact .inl (renM_f hi hf ht hne)
 ·refine .inr ⟨h1,?_⟩
  by_cases h2:id=t
  ·subst h2;rw [if_pos rfl];exact renM_t hi hf ht hne
  ·rw [if_neg h2];exact Qaz hi hf ht hne h1 h2
theorem Qtx (hM:M.ok):(renM M f t (renS f t S)).ok where
 blk id loc h:=by
  rcases renM_src hi hf ht hne id with ⟨_,h2⟩|⟨_,h1,h2⟩
  ·rw [h2] at h;simp at h
  ·rw [h1];rw [h2] at h
   have hB:=hM.blk _ loc h
   cases hk:M.S (if id=t then f else id)<;>rw [hk] at hB<;>simp only [renB]
   ·obtain ⟨b,o,cap,h1,h2,h3,hsh,h4⟩:=hB
    refine ⟨b,o,cap,h1,h2,h3,⟨hsh.1,by simpa [renM] using hsh.2⟩,λj hj=>?_⟩
    obtain ⟨cv,h5,h6,h7,h8⟩:=h4 j (by simpa using hj)
    exact ⟨cv,h5,h6,by rw [List.getElem_map];exact Qfl hi hf ht hne h7,h8⟩
   ·exact hB
   ·exact hB
   ·exact hB
   ·trivial
 inj id id' b o o' cap cap' h1 h2 h3 h4:=by
  rcases renM_src hi hf ht hne id with ⟨_,e⟩|⟨n1,s1,m1⟩
  ·rw [e] at h3;simp at h3
  rcases renM_src hi hf ht hne id' with ⟨_,e⟩|⟨n2,s2,m2⟩
  ·rw [e] at h4;simp at h4
  rw [s1,Qhn] at h1;rw [s2,Qhn] at h2;rw [m1] at h3;rw [m2] at h4
  have:=hM.inj _ _ b o o' cap cap' h1 h2 h3 h4
  by_cases e1:id=t
  ·by_cases e2:id'=t
   ·rw [e1,e2]
   ·rw [if_pos e1,if_neg e2] at this;exact absurd this.symm n2
  ·by_cases e2:id'=t
   ·rw [if_neg e1,if_pos e2] at this;exact absurd this n1
   ·rwa [if_neg e1,if_neg e2] at this
 low:=hM.low
theorem Qto (hb:∀id,(M0.μ id).isSome=true->id<base) (hbf:base<=f) (hbt:base<=t) (hst:Step M0 M):Step M0 (renM M f t (renS f t S)) where
 size:=hst.size
 os:=hst.os
 tape:=hst.tape
 output:=hst.output
 keep:=hst.keep
 osub:=hst.osub
 own' b hlt h:=by
  refine hst.own' b hlt ?_
  obtain ⟨id,o,cap,h1,h2⟩:=h
  rcases renM_src hi hf ht hne id with ⟨_,e⟩|⟨n1,s1,m1⟩
  ·rw [e] at h2;simp at h2
  ·exact ⟨_,o,cap,by rw [s1,Qhn] at h1;exact h1,by rw [m1] at h2;exact h2⟩
 refs cv v h:=by
  obtain ⟨id,hid,hsome⟩:=Qoc h
  have hlt:=hb id hsome
  obtain ⟨i1,i2⟩:=Qaz hi hf ht hne (id:=id) (by omega) (by omega)
  exact Qbo id i2 (λver=>by rw [i1,Jv]) (by rw [i1,J9]) (by rw [i1,Qbq]) hid (hst.refs cv v h)
end
theorem Qd4 {M0:Mem} {base:Nat} (hb:∀id,(M0.μ id).isSome=true->id<base) {tmps:Array Value}:∀(mv:List (Nat×Nat)) {M:Mem} {S:Store} {env:Env},Step M0 M->Now M S->Qv M tmps env ->
  ∃M':Mem,M'.w=M.w/\Step M0 M'/\Now M' (Jk base mv env S).2/\Qv M' tmps (Jk base mv env S).1/\(Jk base mv env S).2.length=S.length
 |[],M,S,env,hst,hN,he=>⟨M,rfl,hst,hN,he,rfl⟩
 |
  (s,k)::r,M,S,env,hst,hN,he=>by
  unfold Jk
  split
  ·rename_i f _
   split
   ·rename_i hc
    obtain ⟨hne,hbf,hf,ht⟩:=hc
    obtain ⟨M',h1,h2,h3,h4,h5⟩:=Qd4 hb r (M:=renM M f (base+k) (renS f (base+k) S)) (S:=renS f (base+k) S) (env:=env.map (Qh7 f (base+k))) (Qto hN.is hf ht hne hb hbf (by omega) hst)
     ⟨Qtx hN.is hf ht hne hN.ok,λid=>rfl,λid hid=>by
      rw [Qpn] at hid
      have:=Qaz hN.is hf ht hne (id:=id) (by omega) (by omega)
      rw [this.2];exact hN.fresh id hid⟩
     ⟨by rw [List.length_map];exact he.1,λu hu=>by
      rw [List.getElem_map];exact Qp4 hN.is hf ht hne (he.2 u (by simpa using hu))⟩
    exact ⟨M',h1,h2,h3,h4,by rw [h5,Qpn]⟩
   ·exact Qd4 hb r hst hN he
  ·exact Qd4 hb r hst hN he
def Qfc:X->Exit
 |.normal=>.normal
 |.exit i=>.exit i
 |.ret=>.ret
 |.goto l=>.goto l
def LPack.sound (G:(Env×Store->Option Out)->Env×Store->Option Out) (st:Env×Store):LPack->Prop
 |.one σ m out=>∀o,m=some o->∃N,Q8 G N st=some (out o)
 |.two σ τ m out out'=>∀o,m=some o->∃N,Q8 G N st=some (match o with | .inl o=>out o | .inr o=>out' o)
theorem orP_some {a b:Option LPack} {p:LPack} (h:orP a b=some p):a=some p\/b=some p:=by
 cases a with
 |none=>exact .inr h
 |some q=>exact .inl h
def LoopsOK (C:Ctx) (I:InlP) (fid base:Nat) (body:Code):Prop:=
 ∀id b,(id,b)∈loopList body->∀st p,C.L fid id base st=some p->p.sound (C.loopG (I Out) fid id base b st.2.length) st
section
variable {P:Program} {C:Ctx} {I:InlP} {M0:Mem} {base fid:Nat}
def Js (M0:Mem) (base:Nat) (a:Act) (e:X) (env':Env) (S':Store) (Q:Exit->Act->World->Prop):Prop:=
 ∀a' M',Step M0 M'->Now M' S'->Qv M' a'.tmps env'->a'.defers=a.defers->base<=S'.length->Q (Qfc e) a' M'.w
def Yl (P:Program) (C:Ctx) (I:InlP) (M0:Mem) (fid base:Nat) (c:Code):Prop:=
 ∀
  (env:Env) (S:Store) (a:Act) (M:Mem) (Q:Exit->Act->World->Prop) (e:X) (env':Env) (S':Store),Step M0 M->Now M S->Qv M a.tmps env->base<=S.length ->
  C.evK (I Out) fid base c env S KK=some (e,env',S')->Js M0 base a e env' S' Q->c.wp P Q a M.w
theorem Qky (hC:Wf P C) (hI:InlOK P C I) (id:Nat) (ops:Array Oper) (draw:Bool):Yl P C I M0 fid base (.region id ops draw):=by
 intro env S a M Q e env' S' hst hN he hbl h hQ
 simp only [Ctx.evK] at h
 cases draw<;>simp only [Zd,Zc] at h
 ·rw [Qco hI] at h
  cases hev:C.evOps (I (Env×Store)) false ops ops.toList env S λe s=>some (e,s) with
  |none=>rw [hev] at h;simp at h
  |
   some p=>
   rw [hev] at h
   simp only [Zb,KK,Zs,Prod.mk.injEq] at h
   obtain ⟨rfl,rfl,rfl⟩:=h
   refine wp_region (Qg5 hC hI ops.toList (List.range ops.size) env S a M ?_ hN he hev λa' M' h1 h2 h3 h4 h5=>hQ a' M' (hst.trans h1) h2 h3 h4 (by omega))
   apply List.ext_getElem
   ·simp
   ·intro i h1 h2
    have:i<ops.size:=by simpa using h1
    simp [this]
 ·split at h
  case isFalse=>simp at h
  rename_i hs
  rw [Qc9 hI] at h
  cases hev:C.evOpsD (I (Env×Store)) ops (C.draws fid id) ops.toList 0 [] env S λe s=>some (e,s) with
  |none=>rw [hev] at h;simp at h
  |
   some p=>
   rw [hev] at h
   simp only [Zb,KK,Zs,Prod.mk.injEq] at h
   obtain ⟨rfl,rfl,rfl⟩:=h
   exact Qwv hC hI hN he hs hev λa' M' h1 h2 h3 h4 h5=>hQ a' M' (hst.trans h1) h2 h3 h4 (by omega)
theorem Qcq {a:Act} {id:Nat} {x:X} {env1:Env} {S1:Store} {Q:Exit->Act->World->Prop} {e:X} {env':Env} {S':Store} (h:Kont.block id KK x env1 S1=some (e,env',S')) (hQ:Js M0 base a e env' S' Q):Js M0 base a x env1 S1 (Exit.inBlock id Q):=by
 intro a' M' h1 h2 h3 h4 h5
 cases x<;>simp only [Kont.block] at h
 ·simp only [KK,Zs,Prod.mk.injEq] at h
  obtain ⟨rfl,rfl,rfl⟩:=h
  exact hQ a' M' h1 h2 h3 h4 h5
 ·rename_i i
  split at h
  ·rename_i hi
   simp only [KK,Zs,Prod.mk.injEq] at h
   obtain ⟨rfl,rfl,rfl⟩:=h
   simp only [Qfc,Exit.inBlock,hi,if_true]
   exact hQ a' M' h1 h2 h3 h4 h5
  ·rename_i hi
   simp only [KK,Zs,Prod.mk.injEq] at h
   obtain ⟨rfl,rfl,rfl⟩:=h
   simp only [Qfc,Exit.inBlock,hi,if_false]
   exact hQ a' M' h1 h2 h3 h4 h5
 ·simp only [KK,Zs,Prod.mk.injEq] at h
  obtain ⟨rfl,rfl,rfl⟩:=h
  exact hQ a' M' h1 h2 h3 h4 h5
 ·simp only [KK,Zs,Prod.mk.injEq] at h
  obtain ⟨rfl,rfl,rfl⟩:=h
  exact hQ a' M' h1 h2 h3 h4 h5
theorem Ja (hI:InlOK P C I) {id:Nat} {b:Code} (hb:Yl P C I M0 fid base b) {env:Env} {S:Store} {a:Act} {M:Mem} {Q:Exit->Act->World->Prop} {e:X} {env':Env} {S':Store} (hst:Step M0 M) (hN:Now M S) (he:Qv M a.tmps env) (hbl:base<=S.length)
  (h:C.evK (I Out) fid base b env S (Kont.block id KK)=some (e,env',S')) (hQ:Js M0 base a e env' S' Q):(Code.block id b).wp P Q a M.w:=by
 rw [Qx hI] at h
 simp only [Bk,Option.bind_eq_some_iff] at h
 obtain ⟨⟨x,env1,S1⟩,h1,h2⟩:=h
 exact wp_block (hb env S a M _ x env1 S1 hst hN he hbl h1 (Qcq h2 hQ))
theorem Qnd (hI:InlOK P C I) (hM0:∀id,(M0.μ id).isSome=true->id<base) {id n:Nat} (hbn:base<=n) {b:Code} (hb:Yl P C I M0 fid base b):∀(N:Nat) (env:Env) (S:Store) (a:Act) (M:Mem) (Q:Exit->Act->World->Prop) (e:X) (env':Env) (S':Store),Step M0 M->Now M S->Qv M a.tmps env->base<=S.length ->
  Q8 (C.loopG (I Out) fid id base b n) N (env,S)=some (e,env',S')->Js M0 base a e env' S' Q->Code.rounds P b Q N a M.w
 |0,env,S,a,M,Q,e,env',S',hst,hN,he,hbl,h,hQ=>by simp [Q8] at h
 |
  N+1,env,S,a,M,Q,e,env',S',hst,hN,he,hbl,h,hQ=>by
  simp only [Q8,Ctx.loopG,Ctx.loopPI] at h
  rw [Qx hI] at h
  simp only [Bk,Option.bind_eq_some_iff] at h
  obtain ⟨⟨x,env1,S1⟩,h1,h2⟩:=h
  rw [rounds_succ]
  refine hb env S a M _ x env1 S1 hst hN he hbl h1 λa' M' h3 h4 h5 h6 h7=>?_
  cases x with
  |
   normal=>
   obtain ⟨M3,k1,k2,k3,k4,k5⟩:=Qd4 hM0 (C.moves fid id) h3 h4 h5
   obtain ⟨M2,g1,g2,g3,g4,g5⟩:=Qez (C.keep fid id) hM0 hbn k2 k3 k4
   show Code.rounds P b Q N a' M'.w
   rw [<-k1,<-g1]
   exact Qnd hI hM0 hbn hb N _ _ a' M2 Q e env' S' g2 g3 g4 (by rw [g5,k5];omega) h2 λa3 M3 k1 k2 k3 k4 k5=>hQ a3 M3 k1 k2 k3 (by rw [k4,h6]) k5
  |
   exit i=>
   obtain ⟨M2,g1,g2,g3,g4,g5⟩:=Qez (C.keepE fid id) hM0 hbn h3 h4 h5
   simp only [Zs,Prod.mk.injEq] at h2
   obtain ⟨rfl,h2⟩:=h2
   have e1:(norm base n (C.keepE fid id) env1 S1).1=env':=congrArg Prod.fst h2
   have e2:(norm base n (C.keepE fid id) env1 S1).2=S':=congrArg Prod.snd h2
   rw [e1] at g4;rw [e2] at g3 g5
   show Q (.exit i) a' M'.w
   rw [<-g1]
   exact hQ a' M2 g2 g3 g4 h6 (by rw [g5];omega)
  |
   ret=>
   obtain ⟨M2,g1,g2,g3,g4,g5⟩:=Qez (C.keepR fid id) hM0 hbn h3 h4 h5
   simp only [Zs,Prod.mk.injEq] at h2
   obtain ⟨rfl,h2⟩:=h2
   have e1:(norm base n (C.keepR fid id) env1 S1).1=env':=congrArg Prod.fst h2
   have e2:(norm base n (C.keepR fid id) env1 S1).2=S':=congrArg Prod.snd h2
   rw [e1] at g4;rw [e2] at g3 g5
   show Q .ret a' M'.w
   rw [<-g1]
   exact hQ a' M2 g2 g3 g4 h6 (by rw [g5];omega)
  |goto l=>simp at h2
def LPack.run (id:Nat):LPack->Option Out
 |.one _ m out=>m.bind λo=>Kont.block id KK (out o).1 (out o).2.1 (out o).2.2
 |
  .two _ _ m out out'=>m.bind λo=>match o with
  |.inl o=>Kont.block id KK (out o).1 (out o).2.1 (out o).2.2
  |.inr o=>Kont.block id KK (out' o).1 (out' o).2.1 (out' o).2.2
theorem LPack.sound_some {G:(Env×Store->Option Out)->Env×Store->Option Out} {st:Env×Store} {p:LPack} (h:p.sound G st) {id:Nat} {e:X} {env':Env} {S':Store}
  (hr:p.run id=some (e,env',S')) :
  ∃N x env1 S1,Q8 G N st=some (x,env1,S1)/\Kont.block id KK x env1 S1=some (e,env',S'):=by
 cases p with
 |
  one σ m out=>
  simp only [LPack.run,Option.bind_eq_some_iff] at hr
  obtain ⟨o,h1,h2⟩:=hr
  obtain ⟨N,hN⟩:=h o h1
  exact ⟨N,_,_,_,hN,h2⟩
 |
  two σ τ m out out'=>
  simp only [LPack.run,Option.bind_eq_some_iff] at hr
  obtain ⟨o,h1,h2⟩:=hr
  obtain ⟨N,hN⟩:=h o h1
  cases o with
  |inl o=>exact ⟨N,_,_,_,hN,h2⟩
  |inr o=>exact ⟨N,_,_,_,hN,h2⟩
theorem Qo9 (hI:InlOK P C I) {body:Code} (hL:LoopsOK C I fid base body) (hM0:∀id,(M0.μ id).isSome=true->id<base) {id:Nat} {b:Code} (hb:Yl P C I M0 fid base b) (hm:(id,b)∈loopList body):∀(n:Nat) (env:Env) (S:Store) (e:X) (env':Env) (S':Store),
  Qav (λ(rec:Env×Store->Option Out) st=>C.evK (I Out) fid base b st.1 st.2 (Kont.seq (λenv' S'=>rec (env',S')) (Kont.block id KK)))
   (λst=>match C.L fid id base (norm base st.2.length (C.keep fid id) st.1 st.2) with
   |some (.one _ m out)=>m.bind λo=>Kont.block id KK (out o).1 (out o).2.1 (out o).2.2
   |
    some (.two _ _ m out out')=>m.bind λo=>match o with
    |.inl o=>Kont.block id KK (out o).1 (out o).2.1 (out o).2.2
    |.inr o=>Kont.block id KK (out' o).1 (out' o).2.1 (out' o).2.2
   |none=>none) n (env,S)=some (e,env',S') ->
  ∃N,∀(a:Act) (M:Mem) (Q:Exit->Act->World->Prop),Step M0 M->Now M S->Qv M a.tmps env->base<=S.length->Js M0 base a e env' S' Q->Code.rounds P b (Exit.inBlock id Q) N a M.w
 |
  0,env,S,e,env',S',h=>by
  simp only [Qav] at h
  have hp:∃p,C.L fid id base (norm base S.length (C.keep fid id) env S)=some p/\p.run id=some (e,env',S'):=by
   cases hl:C.L fid id base (norm base S.length (C.keep fid id) env S) with
   |none=>rw [hl] at h;simp at h
   |some p=>rw [hl] at h;exact ⟨p,rfl,by cases p<;>exact h⟩
  obtain ⟨p,hp,hr⟩:=hp
  obtain ⟨N,x,env1,S1,h1,h2⟩:=LPack.sound_some (hL id b hm _ p hp) hr
  refine ⟨N,λa M Q hst hN he hbl hQ=>?_⟩
  obtain ⟨M2,g1,g2,g3,g4,g5⟩:=Qez (n:=S.length) (C.keep fid id) hM0 hbl hst hN he
  rw [g5,Nat.min_self] at h1
  rw [<-g1]
  exact Qnd hI hM0 hbl hb N _ _ a M2 _ x env1 S1 g2 g3 g4 (by rw [g5];omega) h1 (Qcq h2 hQ)
 |
  n+1,env,S,e,env',S',h=>by
  simp only [Qav] at h
  rw [Qx hI] at h
  simp only [Bk,Option.bind_eq_some_iff] at h
  obtain ⟨⟨x,env1,S1⟩,h1,h2⟩:=h
  cases x with
  |
   normal=>
   obtain ⟨N,hN'⟩:=Qo9 hI hL hM0 hb hm n env1 S1 e env' S' h2
   refine ⟨N+1,λa M Q hst hN he hbl hQ=>?_⟩
   rw [rounds_succ]
   refine hb env S a M _ _ env1 S1 hst hN he hbl h1 λa' M' h3 h4 h5 h6 h7=>?_
   exact hN' a' M' Q h3 h4 h5 h7 λa2 M2 g1 g2 g3 g4 g5=>hQ a2 M2 g1 g2 g3 (by rw [g4,h6]) g5
  |
   exit i=>
   refine ⟨1,λa M Q hst hN he hbl hQ=>?_⟩
   rw [rounds_succ]
   refine hb env S a M _ _ env1 S1 hst hN he hbl h1 λa' M' h3 h4 h5 h6 h7=>?_
   exact Qcq (a:=a) (show Kont.block id KK (.exit i) env1 S1=_ from h2) hQ a' M' h3 h4 h5 h6 h7
  |
   ret=>
   refine ⟨1,λa M Q hst hN he hbl hQ=>?_⟩
   rw [rounds_succ]
   refine hb env S a M _ _ env1 S1 hst hN he hbl h1 λa' M' h3 h4 h5 h6 h7=>?_
   exact Qcq (a:=a) (show Kont.block id KK .ret env1 S1=_ from h2) hQ a' M' h3 h4 h5 h6 h7
  |
   goto l=>
   refine ⟨1,λa M Q hst hN he hbl hQ=>?_⟩
   rw [rounds_succ]
   refine hb env S a M _ _ env1 S1 hst hN he hbl h1 λa' M' h3 h4 h5 h6 h7=>?_
   exact Qcq (a:=a) (show Kont.block id KK (.goto l) env1 S1=_ from h2) hQ a' M' h3 h4 h5 h6 h7
theorem Qqb (hI:InlOK P C I) {body:Code} (hL:LoopsOK C I fid base body) (hM0:∀id,(M0.μ id).isSome=true->id<base) {id:Nat} {b:Code} (hb:Yl P C I M0 fid base b) (hm:(id,b)∈loopList body):Yl P C I M0 fid base (.block id (.loop b)):=by
 intro env S a M Q e env' S' hst hN he hbl h hQ
 simp only [Ctx.evK] at h
 obtain ⟨N,hN'⟩:=Qo9 hI hL hM0 hb hm _ env S e env' S' h
 exact wp_block (wp_loop_rounds N (hN' a M Q hst hN he hbl hQ))
theorem Wi (hC:Wf P C) (hI:InlOK P C I) {body:Code} (hL:LoopsOK C I fid base body) (hM0:∀id,(M0.μ id).isSome=true->id<base):∀(c:Code),(∀p∈loopList c,p∈loopList body)->Yl P C I M0 fid base c
 |
  .skip,hsub=>λenv S a M Q e env' S' hst hN he hbl h hQ=>by
  simp only [Ctx.evK,KK,Zs,Prod.mk.injEq] at h
  obtain ⟨rfl,rfl,rfl⟩:=h
  exact wp_skip (hQ a M hst hN he rfl hbl)
 |
  .ret,hsub=>λenv S a M Q e env' S' hst hN he hbl h hQ=>by
  simp only [Ctx.evK,KK,Zs,Prod.mk.injEq] at h
  obtain ⟨rfl,rfl,rfl⟩:=h
  exact wp_ret (hQ a M hst hN he rfl hbl)
 |
  .exit id,hsub=>λenv S a M Q e env' S' hst hN he hbl h hQ=>by
  simp only [Ctx.evK,KK,Zs,Prod.mk.injEq] at h
  obtain ⟨rfl,rfl,rfl⟩:=h
  exact wp_exit (hQ a M hst hN he rfl hbl)
 |.region id ops draw,hsub=>Qky hC hI id ops draw
 |
  .seq x y,hsub=>λenv S a M Q e env' S' hst hN he hbl h hQ=>by
  simp only [Ctx.evK] at h
  rw [Qx hI] at h
  simp only [Bk,Option.bind_eq_some_iff] at h
  obtain ⟨⟨e1,env1,S1⟩,h1,h2⟩:=h
  refine wp_seq (Wi hC hI hL hM0 x (λp hp=>hsub p (by simp [loopList,hp])) env S a M _ e1 env1 S1 hst hN he hbl h1 λa' M' h3 h4 h5 h6 h7=>?_)
  cases e1 with
  |normal=>exact Wi hC hI hL hM0 y (λp hp=>hsub p (by simp [loopList,hp])) env1 S1 a' M' Q e env' S' h3 h4 h5 h7 h2 λa2 M2 g1 g2 g3 g4 g5=>hQ a2 M2 g1 g2 g3 (by rw [g4,h6]) g5
  |
   exit i=>
   simp only [Kont.seq,KK,Zs,Prod.mk.injEq] at h2
   obtain ⟨rfl,rfl,rfl⟩:=h2
   exact hQ a' M' h3 h4 h5 h6 h7
  |
   ret=>
   simp only [Kont.seq,KK,Zs,Prod.mk.injEq] at h2
   obtain ⟨rfl,rfl,rfl⟩:=h2
   exact hQ a' M' h3 h4 h5 h6 h7
  |
   goto l=>
   simp only [Kont.seq,KK,Zs,Prod.mk.injEq] at h2
   obtain ⟨rfl,rfl,rfl⟩:=h2
   exact hQ a' M' h3 h4 h5 h6 h7
 |
  .cond c t f,hsub=>λenv S a M Q e env' S' hst hN he hbl h hQ=>by
  simp only [Ctx.evK] at h
  split at h
  case h_2=>simp at h
  rename_i b hb
  have hc:=Qi1 C he 0 c
  rw [hb] at hc
  refine wp_cond (Qaa hc) ?_
  cases b<;>simp only [Zd,Zc] at h
  ·exact Wi hC hI hL hM0 f (λp hp=>hsub p (by simp [loopList,hp])) env S a M Q e env' S' hst hN he hbl h hQ
  ·exact Wi hC hI hL hM0 t (λp hp=>hsub p (by simp [loopList,hp])) env S a M Q e env' S' hst hN he hbl h hQ
 |.block id (.loop b),hsub=>Qqb hI hL hM0 (Wi hC hI hL hM0 b λp hp=>hsub p (by simp [loopList,hp])) (hsub _ (by simp [loopList]))
 |.block id .skip,hsub=>λenv S a M Q e env' S' hst hN he hbl h hQ=>Ja (fid:=fid) hI (Wi hC hI hL hM0 .skip λp hp=>by simp [loopList] at hp) hst hN he hbl (show C.evK (I Out) fid base .skip env S (Kont.block id KK)=some (e,env',S') from h) hQ
 |.block id (.region i ops draw),hsub=>λenv S a M Q e env' S' hst hN he hbl h hQ=>Ja (fid:=fid) hI (Qky hC hI i ops draw) hst hN he hbl (show C.evK (I Out) fid base (.region i ops draw) env S (Kont.block id KK)=some (e,env',S') from h) hQ
 |.block id (.seq x y),hsub=>λenv S a M Q e env' S' hst hN he hbl h hQ=>Ja (fid:=fid) hI (Wi hC hI hL hM0 (.seq x y) hsub) hst hN he hbl (show C.evK (I Out) fid base (.seq x y) env S (Kont.block id KK)=some (e,env',S') from h) hQ
 |.block id (.cond x y z),hsub=>λenv S a M Q e env' S' hst hN he hbl h hQ=>Ja (fid:=fid) hI (Wi hC hI hL hM0 (.cond x y z) hsub) hst hN he hbl (show C.evK (I Out) fid base (.cond x y z) env S (Kont.block id KK)=some (e,env',S') from h) hQ
 |.block id (.block i b),hsub=>λenv S a M Q e env' S' hst hN he hbl h hQ=>Ja (fid:=fid) hI (Wi hC hI hL hM0 (.block i b) hsub) hst hN he hbl (show C.evK (I Out) fid base (.block i b) env S (Kont.block id KK)=some (e,env',S') from h) hQ
 |.block id (.exit i),hsub=>λenv S a M Q e env' S' hst hN he hbl h hQ=>Ja (fid:=fid) hI (Wi hC hI hL hM0 (.exit i) λp hp=>by simp [loopList] at hp) hst hN he hbl (show C.evK (I Out) fid base (.exit i) env S (Kont.block id KK)=some (e,env',S') from h) hQ
 |.block id .ret,hsub=>λenv S a M Q e env' S' hst hN he hbl h hQ=>Ja (fid:=fid) hI (Wi hC hI hL hM0 .ret λp hp=>by simp [loopList] at hp) hst hN he hbl (show C.evK (I Out) fid base .ret env S (Kont.block id KK)=some (e,env',S') from h) hQ
 |.block id (.rangeFunc ..),hsub=>λenv S a M Q e env' S' hst hN he hbl h hQ=>by simp [Ctx.evK] at h
 |.block id (.scope ..),hsub=>λenv S a M Q e env' S' hst hN he hbl h hQ=>by simp [Ctx.evK] at h
 |.block id (.label l),hsub=>λenv S a M Q e env' S' hst hN he hbl h hQ=>Ja (fid:=fid) hI (Wi hC hI hL hM0 (.label l) λp hp=>by simp [loopList] at hp) hst hN he hbl (show C.evK (I Out) fid base (.label l) env S (Kont.block id KK)=some (e,env',S') from h) hQ
 |.block id (.goto l),hsub=>λenv S a M Q e env' S' hst hN he hbl h hQ=>Ja (fid:=fid) hI (Wi hC hI hL hM0 (.goto l) λp hp=>by simp [loopList] at hp) hst hN he hbl (show C.evK (I Out) fid base (.goto l) env S (Kont.block id KK)=some (e,env',S') from h) hQ
 |.block id (.refuse ..),hsub=>λenv S a M Q e env' S' hst hN he hbl h hQ=>by simp [Ctx.evK] at h
 |.loop _,hsub=>λenv S a M Q e env' S' hst hN he hbl h hQ=>by simp [Ctx.evK] at h
 |.rangeFunc ..,hsub=>λenv S a M Q e env' S' hst hN he hbl h hQ=>by simp [Ctx.evK] at h
 |.scope _,hsub=>λenv S a M Q e env' S' hst hN he hbl h hQ=>by simp [Ctx.evK] at h
 |
  .label l,hsub=>λenv S a M Q e env' S' hst hN he hbl h hQ=>by
  simp only [Ctx.evK,KK,Zs,Prod.mk.injEq] at h
  obtain ⟨rfl,rfl,rfl⟩:=h
  exact wp_label (hQ a M hst hN he rfl hbl)
 |
  .goto l,hsub=>λenv S a M Q e env' S' hst hN he hbl h hQ=>by
  simp only [Ctx.evK,KK,Zs,Prod.mk.injEq] at h
  obtain ⟨rfl,rfl,rfl⟩:=h
  exact wp_goto (hQ a M hst hN he rfl hbl)
 |.refuse _,hsub=>λenv S a M Q e env' S' hst hN he hbl h hQ=>by simp [Ctx.evK] at h
termination_by c=>SizeOf.sizeOf c
def Qbx (P:Program) (rest:Code) (Q:Exit->Act->World->Prop):Nat->Exit->Act->World->Prop
 |0,.goto _,_,_=>False
 |n+1,.goto l,a,w=>l=0/\rest.wp P (Qbx P rest Q n) a w
 |_,e,a,w=>Q e a w
theorem Qv3 {rest:Code} {Q:Exit->Act->World->Prop} {n:Nat} {e:Exit} {a:Act} {w:World} (he:∀l,e≠.goto l) (h:Q e a w):Qbx P rest Q n e a w:=by
 cases n<;>cases e<;>first|exact h|exact (he _ rfl).elim
theorem Qcu {rest:Code} {Q:Exit->Act->World->Prop} {n:Nat} {e:Exit} {a:Act} {w:World} (he:∀l,e≠.goto l) (h:Qbx P rest Q n e a w):Q e a w:=by
 cases n<;>cases e<;>first|exact h|exact (he _ rfl).elim
theorem Qwg {c rest:Code} {Q:Exit->Act->World->Prop} (hf:findLabel c 0=some rest) {n:Nat} {a:Act} {w:World} (h:c.wp P (Qbx P rest Q n) a w):(Code.scope c).wp P Q a w:=by
 intro b k cs
 have hg:gotoIn 0 (.inScope c::k)=some (.code rest :: .inScope c::k):=by simp [gotoIn,hf]
 have key:∀n a w,rest.wp P (Qbx P rest Q n) a w->∃e a' w',Q e a' w'/\Arrives P (lone (b.at a (.code rest :: .inScope c::k)) cs w) b k cs e a' w':=by
  intro n
  induction n with
  |
   zero=>
   intro a w h
   obtain ⟨e,a₁,w₁,hq,harr⟩:=h b (.inScope c::k) cs
   cases e with
   |normal=>exact ⟨.normal,a₁,w₁,hq,Steps.trans harr (.one step_inScope)⟩
   |exit id=>exact ⟨.exit id,a₁,w₁,hq,λk' hk=>harr k' (by simp [exitTo,hk])⟩
   |goto l'=>exact hq.elim
   |ret=>exact ⟨_,a₁,w₁,hq,harr⟩
   |panic ch=>exact ⟨_,a₁,w₁,hq,harr⟩
   |outgrown=>exact ⟨_,a₁,w₁,hq,harr⟩
  |
   succ n ih=>
   intro a w h
   obtain ⟨e,a₁,w₁,hq,harr⟩:=h b (.inScope c::k) cs
   cases e with
   |normal=>exact ⟨.normal,a₁,w₁,hq,Steps.trans harr (.one step_inScope)⟩
   |exit id=>exact ⟨.exit id,a₁,w₁,hq,λk' hk=>harr k' (by simp [exitTo,hk])⟩
   |
    goto l'=>
    obtain ⟨rfl,hJ⟩:=hq
    obtain ⟨e₂,a₂,w₂,hq₂,harr₂⟩:=ih a₁ w₁ hJ
    exact ⟨e₂,a₂,w₂,hq₂,.of_steps (harr _ hg) harr₂⟩
   |ret=>exact ⟨_,a₁,w₁,hq,harr⟩
   |panic ch=>exact ⟨_,a₁,w₁,hq,harr⟩
   |outgrown=>exact ⟨_,a₁,w₁,hq,harr⟩
 obtain ⟨e,a₁,w₁,hq,harr⟩:=h b (.inScope c::k) cs
 cases e with
 |normal=>exact ⟨.normal,a₁,w₁,Qcu (by simp) hq,.head step_scope (Steps.trans harr (.one step_inScope))⟩
 |exit id=>exact ⟨.exit id,a₁,w₁,Qcu (by simp) hq,λk' hk=>.head step_scope (harr k' (by simp [exitTo,hk]))⟩
 |
  goto l'=>
  cases n with
  |zero=>exact hq.elim
  |
   succ n=>
   obtain ⟨rfl,hJ⟩:=hq
   obtain ⟨e₂,a₂,w₂,hq₂,harr₂⟩:=key n a₁ w₁ hJ
   exact ⟨e₂,a₂,w₂,hq₂,.of_steps (.head step_scope (harr _ hg)) harr₂⟩
 |ret=>exact ⟨_,a₁,w₁,Qcu (by simp) hq,.of_steps (.one step_scope) harr⟩
 |panic ch=>exact ⟨_,a₁,w₁,Qcu (by simp) hq,.of_steps (.one step_scope) harr⟩
 |outgrown=>exact ⟨_,a₁,w₁,Qcu (by simp) hq,.of_steps (.one step_scope) harr⟩
theorem Qti (hI:InlOK P C I) {c rest:Code} (hr:Yl P C I M0 fid base rest) (hf:findLabel c 0=some rest):∀(n:Nat) (d:Code),Yl P C I M0 fid base d->∀(env:Env) (S:Store) (a:Act) (M:Mem) (Q:Exit->Act->World->Prop) (e:X) (env':Env) (S':Store),Step M0 M->Now M S->Qv M a.tmps env->base<=S.length ->
  C.evK (I Out) fid base d env S (C.gotoK (I Out) fid base c KK n)=some (e,env',S')->Js M0 base a e env' S' Q->d.wp P (Qbx P rest Q n) a M.w:=by
 intro n
 induction n with
 |
  zero=>
  intro d hd env S a M Q e env' S' hst hN he hbl h hQ
  rw [Qx hI] at h
  simp only [Bk,Option.bind_eq_some_iff] at h
  obtain ⟨⟨x,env1,S1⟩,h1,h2⟩:=h
  refine hd env S a M _ x env1 S1 hst hN he hbl h1 λa' M' h3 h4 h5 h6 h7=>?_
  cases x<;>simp only [Ctx.gotoK,KK,Zs,Prod.mk.injEq] at h2<;>try (simp at h2;done)
  all_goals
   obtain ⟨rfl,rfl,rfl⟩:=h2
   exact Qv3 (by simp [Qfc]) (hQ a' M' h3 h4 h5 h6 h7)
 |
  succ n ih=>
  intro d hd env S a M Q e env' S' hst hN he hbl h hQ
  rw [Qx hI] at h
  simp only [Bk,Option.bind_eq_some_iff] at h
  obtain ⟨⟨x,env1,S1⟩,h1,h2⟩:=h
  refine hd env S a M _ x env1 S1 hst hN he hbl h1 λa' M' h3 h4 h5 h6 h7=>?_
  cases x with
  |
   goto l=>
   simp only [Ctx.gotoK,hf] at h2
   split at h2
   case isFalse=>simp at h2
   rename_i hl
   exact ⟨hl,ih rest hr env1 S1 a' M' Q e env' S' h3 h4 h5 h7 h2 λa2 M2 g1 g2 g3 g4 g5=>hQ a2 M2 g1 g2 g3 (by rw [g4,h6]) g5⟩
  |
   normal=>
   simp only [Ctx.gotoK,KK,Zs,Prod.mk.injEq] at h2
   obtain ⟨rfl,rfl,rfl⟩:=h2
   exact hQ a' M' h3 h4 h5 h6 h7
  |
   exit i=>
   simp only [Ctx.gotoK,KK,Zs,Prod.mk.injEq] at h2
   obtain ⟨rfl,rfl,rfl⟩:=h2
   exact hQ a' M' h3 h4 h5 h6 h7
  |
   ret=>
   simp only [Ctx.gotoK,KK,Zs,Prod.mk.injEq] at h2
   obtain ⟨rfl,rfl,rfl⟩:=h2
   exact hQ a' M' h3 h4 h5 h6 h7
theorem Qge:∀(c:Code) {l:Nat} {rest:Code},findLabel c l=some rest->∀p∈loopList rest,p∈loopList c
 |
  .seq x y,l,rest,h,p,hp=>by
  unfold findLabel at h
  split at h
  ·rename_i r hr
   simp only [Zs] at h;subst h
   simp only [loopList,List.mem_append] at hp ⊢
   exact hp.imp (Qge x hr p) _root_.id
  ·simp only [loopList,List.mem_append];exact .inr (Qge y h p hp)
 |
  .label l',l,rest,h,p,hp=>by
  unfold findLabel at h
  split at h
  ·simp only [Zs] at h;subst h;simp [loopList] at hp
  ·simp at h
 |.skip,_,_,h,_,_=>by simp [findLabel] at h
 |.region ..,_,_,h,_,_=>by simp [findLabel] at h
 |.cond ..,_,_,h,_,_=>by simp [findLabel] at h
 |.block ..,_,_,h,_,_=>by simp [findLabel] at h
 |.loop ..,_,_,h,_,_=>by simp [findLabel] at h
 |.rangeFunc ..,_,_,h,_,_=>by simp [findLabel] at h
 |.scope ..,_,_,h,_,_=>by simp [findLabel] at h
 |.goto ..,_,_,h,_,_=>by simp [findLabel] at h
 |.exit ..,_,_,h,_,_=>by simp [findLabel] at h
 |.ret,_,_,h,_,_=>by simp [findLabel] at h
 |.refuse ..,_,_,h,_,_=>by simp [findLabel] at h
theorem Qpo (hC:Wf P C) (hI:InlOK P C I) {body:Code} (hL:LoopsOK C I fid base body) (hM0:∀id,(M0.μ id).isSome=true->id<base) {c:Code} (hsub:∀p∈loopList c,p∈loopList body) (env:Env) (S:Store) (a:Act) (M:Mem) (Q:Exit->Act->World->Prop) (e:X) (env':Env) (S':Store) (hst:Step M0 M) (hN:Now M S) (he:Qv M a.tmps env) (hbl:base<=S.length)
  (h:C.evS (I Out) fid base c env S KK=some (e,env',S')) (hQ:Js M0 base a e env' S' Q):(Code.scope c).wp P Q a M.w:=by
 unfold Ctx.evS at h
 have hc:Yl P C I M0 fid base c:=Wi hC hI hL hM0 c hsub
 cases hf:findLabel c 0 with
 |
  some rest=>
  have hr:Yl P C I M0 fid base rest:=Wi hC hI hL hM0 rest (λp hp=>hsub p (Qge c hf p hp))
  exact Qwg hf (Qti hI hr hf _ c hc env S a M Q e env' S' hst hN he hbl h hQ)
 |
  none=>
  refine wp_scope_straight ?_
  rw [Qx hI] at h
  simp only [Bk,Option.bind_eq_some_iff] at h
  obtain ⟨⟨x,env1,S1⟩,h1,h2⟩:=h
  refine hc env S a M _ x env1 S1 hst hN he hbl h1 λa' M' h3 h4 h5 h6 h7=>?_
  generalize C.unroll fid 1000000=n at h2
  cases x with
  |goto l=>cases n<;>simp [Ctx.gotoK,hf] at h2
  |
   normal=>
   cases n<;>(simp only [Ctx.gotoK,KK,Zs,Prod.mk.injEq] at h2;obtain ⟨rfl,rfl,rfl⟩:=h2;exact hQ a' M' h3 h4 h5 h6 h7)
  |
   exit i=>
   cases n<;>(simp only [Ctx.gotoK,KK,Zs,Prod.mk.injEq] at h2;obtain ⟨rfl,rfl,rfl⟩:=h2;exact hQ a' M' h3 h4 h5 h6 h7)
  |
   ret=>
   cases n<;>(simp only [Ctx.gotoK,KK,Zs,Prod.mk.injEq] at h2;obtain ⟨rfl,rfl,rfl⟩:=h2;exact hQ a' M' h3 h4 h5 h6 h7)
theorem Qqi (hC:Wf P C) (hI:InlOK P C I) {body:Code} (hL:LoopsOK C I fid base body) (hM0:∀id,(M0.μ id).isSome=true->id<base) (env:Env) (S:Store) (a:Act) (M:Mem) (Q:Exit->Act->World->Prop) (e:X) (env':Env) (S':Store) (hst:Step M0 M) (hN:Now M S) (he:Qv M a.tmps env) (hbl:base<=S.length)
  (h:C.evB (I Out) fid base body env S KK=some (e,env',S')) (hQ:Js M0 base a e env' S' Q):body.wp P Q a M.w:=by
 unfold Ctx.evB at h
 split at h
 ·exact Qpo hC hI hL hM0 (λp hp=>by simpa [loopList] using hp) env S a M Q e env' S' hst hN he hbl h hQ
 ·rename_i x c
  rw [Qx hI] at h
  simp only [Bk,Option.bind_eq_some_iff] at h
  obtain ⟨⟨e1,env1,S1⟩,h1,h2⟩:=h
  refine wp_seq (Wi hC hI hL hM0 x (λp hp=>by simp [loopList,hp]) env S a M _ e1 env1 S1 hst hN he hbl h1 λa' M' h3 h4 h5 h6 h7=>?_)
  cases e1 with
  |normal=>exact Qpo hC hI hL hM0 (λp hp=>by simp [loopList,hp]) env1 S1 a' M' Q e env' S' h3 h4 h5 h7 h2 λa2 M2 g1 g2 g3 g4 g5=>hQ a2 M2 g1 g2 g3 (by rw [g4,h6]) g5
  |
   exit i=>
   simp only [Kont.seq,KK,Zs,Prod.mk.injEq] at h2
   obtain ⟨rfl,rfl,rfl⟩:=h2
   exact hQ a' M' h3 h4 h5 h6 h7
  |
   ret=>
   simp only [Kont.seq,KK,Zs,Prod.mk.injEq] at h2
   obtain ⟨rfl,rfl,rfl⟩:=h2
   exact hQ a' M' h3 h4 h5 h6 h7
  |
   goto l=>
   simp only [Kont.seq,KK,Zs,Prod.mk.injEq] at h2
   obtain ⟨rfl,rfl,rfl⟩:=h2
   exact hQ a' M' h3 h4 h5 h6 h7
 ·exact Wi hC hI hL hM0 _ (λp hp=>hp) env S a M Q e env' S' hst hN he hbl h hQ
end
theorem Qt0 {α:Type}:∀(x:Sem α),Sem.bind x Sem.pure=x:=by
 intro x
 induction x with
 |pure a=>rfl
 |halt h=>rfl
 |_=>simp only [Sem.bind];first|(congr 1;funext v;rename_i ih;exact ih v)|(congr 1)
theorem Qsx {α β γ:Type} (f:α->Sem β) (g:β->Sem γ):∀(x:Sem α),Sem.bind (Sem.bind x f) g=Sem.bind x λa=>Sem.bind (f a) g:=by
 intro x
 induction x with
 |pure a=>rfl
 |halt h=>rfl
 |_=>simp only [Sem.bind];first|(congr 1;funext v;rename_i ih;exact ih v)|(congr 1)
theorem Qnx:LawfulMonad Sem:=LawfulMonad.mk' Sem (λx=>Qt0 x) (λ_ _=>rfl) (λx f g=>Qsx f g x)
theorem Qux {α:Type} {P:Program} {w:World} {f:α->Sem Value}:∀{xs:List α} {vs:List Value},vs.length=xs.length->(∀i (hi:i<xs.length) (hi':i<vs.length),(f xs[i]).run P w=.ok vs[i] w)->(xs.mapM f).run P w=.ok vs w:=by
 have:=Qnx
 intro xs
 induction xs with
 |nil=>
      intro vs hs h;have:vs=[]:=List.eq_nil_of_length_eq_zero hs
      subst this;rfl
 |
  cons x xs ih=>
  intro vs hs h
  match vs,hs,h with
  |
   v::vs,hs,h=>
   have h0:=h 0 (by simp) (by simp)
   have h1:=ih (vs:=vs) (by simpa using hs) λi hi hi'=>h (i+1) (by simpa using hi) (by simpa using hi')
   simp only [List.getElem_cons_zero] at h0
   rw [List.mapM_cons]
   simp only [Sem.run_bind,h0,Result.andThen_ok,h1,Sem.run_pure]
theorem Quu {α:Type} {P:Program} {w:World} {f:α->Sem Value} {xs:Array α} {vs:List Value} (hs:vs.length=xs.size) (h:∀i (hi:i<xs.toList.length) (hi':i<vs.length),(f xs.toList[i]).run P w=.ok vs[i] w):(xs.mapM f).run P w=.ok vs.toArray w:=by
 have:=Qnx
 have e:xs.mapM f=List.toArray <$> xs.toList.mapM f:=by
  conv=>lhs;rw [<-Array.toArray_toList (xs:=xs)]
  exact List.mapM_toArray
 rw [e,<-bind_pure_comp,Sem.run_bind,Qux (by simpa using hs) h,Result.andThen_ok]
 rfl
section
variable {P:Program} {C:Ctx} {M:Mem} {S:Store} {a:Act} {env:Env}
def resF (tmps:Array Value):ResultVar->Sem Value
 |.tmp t=>pure (tmps.getD t Go.undef)
 |.cell b t=>do loadVar t (<-asAddr (tmps.getD b Go.undef))
theorem Qx6 (hT:C.T.check P=true) (hN:Now M S) {t:Nat} {cx:Value} {x v:V} (hx:Rep M cx x) (h:C.loadV t S x some=some v):∃cv,(do loadVar t (<-asAddr cx):Sem Value).run P M.w=.ok cv M.w/\Rep M cv v:=by
 obtain ⟨cv,v',hrun,hK,hr⟩:=Qlm hT hN.ok (λid _=>hN.is id) h hx
 simp only [Zs] at hK
 subst hK
 refine ⟨cv,?_,hr⟩
 cases cx with
 |
  pointer ad=>
  cases ad with
  |none=>simp [Instr.loadAt,Instr.sureAddr,stuck] at hrun
  |some ad=>simpa [Instr.loadAt,Instr.sureAddr,asAddr] using hrun
 |_=>simp [Instr.loadAt,Instr.sureAddr,stuck] at hrun
theorem Qgb (hT:C.T.check P=true) (hN:Now M S) (he:Qv M a.tmps env):∀(rs:List ResultVar) (vs:List V),C.resK env S rs some=some vs->vs.length=rs.length /\
  ∃cvs:List Value,cvs.length=rs.length/\(∀i (h:i<rs.length) (h':i<cvs.length),(resF a.tmps rs[i]).run P M.w=.ok cvs[i] M.w)/\∀i (h:i<vs.length) (h':i<cvs.length),Rep M cvs[i] vs[i]
 |
  [],vs,h=>by
  simp only [Ctx.resK,Zs] at h
  subst h
  exact ⟨rfl,[],rfl,λi h=>by simp at h,λi h=>by simp at h⟩
 |
  .tmp t::rs,vs,h=>by
  simp only [Ctx.resK] at h
  rw [Yu] at h
  simp only [Option.bind_eq_some_iff,Zs] at h
  obtain ⟨us,h1,rfl⟩:=h
  obtain ⟨h2,cvs,h3,h4,h5⟩:=Qgb hT hN he rs us h1
  refine ⟨by simp [h2],a.tmps.getD t Go.undef::cvs,by simp [h3],λi hi hi'=>?_,λi hi hi'=>?_⟩
  ·cases i with
   |zero=>simp [resF]
   |succ i=>simpa using h4 i (by simpa using hi) (by simpa using hi')
  ·cases i with
   |zero=>exact he.get t
   |succ i=>simpa using h5 i (by simpa using hi) (by simpa using hi')
 |
  .cell b t::rs,vs,h=>by
  simp only [Ctx.resK] at h
  rw [Qbj] at h
  simp only [Option.bind_eq_some_iff] at h
  obtain ⟨v,hv,h⟩:=h
  rw [Yu] at h
  simp only [Option.bind_eq_some_iff,Zs] at h
  obtain ⟨us,h1,rfl⟩:=h
  obtain ⟨h2,cvs,h3,h4,h5⟩:=Qgb hT hN he rs us h1
  obtain ⟨cv,hrun,hr⟩:=Qx6 hT hN (he.get b) hv
  refine ⟨by simp [h2],cv::cvs,by simp [h3],λi hi hi'=>?_,λi hi hi'=>?_⟩
  ·cases i with
   |zero=>simpa [resF] using hrun
   |succ i=>simpa using h4 i (by simpa using hi) (by simpa using hi')
  ·cases i with
   |zero=>exact hr
   |succ i=>simpa using h5 i (by simpa using hi) (by simpa using hi')
theorem Qx8 (hT:C.T.check P=true) (hN:Now M S) (he:Qv M a.tmps env) {fn:Func} {vs:List V} (h:C.resK env S fn.results.toList some=some vs):∃cv,(results fn a.tmps).run P M.w=.ok cv M.w/\Rep M cv (one vs):=by
 obtain ⟨h2,cvs,h3,h4,h5⟩:=Qgb hT hN he _ _ h
 have hsz:fn.results.size=cvs.length:=by simp [h3]
 have hrun:=Quu (P:=P) (w:=M.w) (xs:=fn.results) (vs:=cvs) (f:=resF a.tmps) hsz.symm h4
 rw [show results fn a.tmps=(fn.results.mapM (resF a.tmps) >>= λvs=>pure (if h:vs.size=1 then vs[0] else .tuple vs)) from rfl,Sem.run_bind,hrun,Result.andThen_ok,Sem.run_pure]
 by_cases h1:cvs.length=1
 ·obtain ⟨c,rfl⟩:=List.length_eq_one_iff.1 h1
  obtain ⟨v,rfl⟩:=List.length_eq_one_iff.1 (h2.trans (by rw [<-h3];exact h1))
  exact ⟨c,by simp,h5 0 (by simp) (by simp)⟩
 ·refine ⟨.tuple cvs.toArray,by simp [h1],?_⟩
  have:one vs=.tup vs:=by
   match vs,h2 with
   |[],_=>rfl
   |[v],h2=>simp at h2;omega
   |v::u::r,_=>rfl
  rw [this]
  have hlen:vs.length=cvs.length:=by rw [h2,h3]
  exact .tup _ _ (by simp [hlen]) λj hj=>by
   have:=h5 j hj (by omega)
   rw [show cvs.toArray.getD j Go.undef=cvs[j]'(by omega) by simp [show j<cvs.length by omega]]
   exact this
end
structure FunOK (P:Program) (g:Nat) (f:Func) (c:Code):Prop where
 get:P.funcs[g]? = some f
 body:f.body=some c
 name:(f.name == "runtime.NumGoroutine")=false
theorem FunOK.enters {P:Program} {g:Nat} {f:Func} {c:Code} (h:FunOK P g f c) (args:Array Value) (w:World):(callFunc g args).run P w=.ok (.enter g args) w:=by
 have h1:f.name≠"runtime.NumGoroutine":=by simpa using h.name
 simp [callFunc,go_sem,h.get,h.body,h1]
theorem Qmv {P:Program} {g:Nat} {f:Func} {c:Code} (h:FunOK P g f c):(ifun f).body=c:=by simp [ifun,h.body]
section
variable {P:Program} {C:Ctx} {I:InlP}
theorem Qor (hC:Wf P C) (hI:InlOK P C I) {g:Nat} {f:Func} {c:Code} (hf:FunOK P g f c) {M:Mem} {S:Store} (hL:LoopsOK C I g S.length c) (hN:Now M S) {args:List V} {cargs:Array Value} (hsz:cargs.size=args.length)
  (hr:∀j (h:j<args.length),Rep M (cargs.getD j Go.undef) args[j]) {e:X} {env':Env} {S':Store} (h:C.evB (I Out) g S.length c (args++List.replicate (f.ntmps-args.length) .undef) S KK=some (e,env',S')) (he:(∀i,e≠.exit i)/\∀l,e≠.goto l)
  {vs:List V} (hv:C.resK env' S' f.results.toList some=some vs):Calls P g cargs M.w λe w'=>∃cv M',e=.returned cv/\M'.w=w'/\Step M M'/\Now M' S'/\Rep M' cv (one vs)/\S.length<=S'.length:=by
 have hM0:∀id,(M.μ id).isSome=true->id<S.length:=λid h=>by
  rcases Nat.lt_or_ge id S.length with h1|h1
  ·exact h1
  ·rw [hN.fresh id h1] at h;simp at h
 refine calls_of_wp hf.get hf.body (Qqi hC hI hL hM0 _ S ⟨cargs++Array.replicate (f.ntmps-cargs.size) Go.undef,[]⟩ M _ e env' S' (.refl M) hN ⟨by simp [hsz],λt ht=>?_⟩ (Nat.le_refl _) h λa' M' h1 h2 h3 h4 h5=>?_)
 ·by_cases hlt:t<args.length
  ·rw [List.getElem_append_left hlt]
   have:=hr t hlt
   simpa [Array.getD_eq_getD_getElem?,Array.getElem?_append_left (show t<cargs.size by omega)] using this
  ·rw [List.getElem_append_right (by omega),List.getElem_replicate]
   exact .imm (.undef _)
 ·obtain ⟨cv,hrun,hrep⟩:=Qx8 hC.tab h2 h3 hv
  cases e with
  |normal=>exact ⟨h4,cv,hrun,cv,M',rfl,rfl,h1,h2,hrep,h5⟩
  |exit i=>exact (he.1 i rfl).elim
  |goto l=>exact (he.2 l rfl).elim
  |ret=>exact ⟨h4,cv,hrun,cv,M',rfl,rfl,h1,h2,hrep,h5⟩
abbrev Qih:=∀R:Type,List V->Store->(V->Store->Option R)->Option R
structure SoundP (P:Program) (g:Nat) (h:Qih):Prop where
 nat:∀(R:Type) (args:List V) (S:Store) (K:V->Store->Option R),h R args S K=Bd (h (V×Store) args S K0) K
 sound:∀(args:List V) (S:Store) (v:V) (S':Store) (M:Mem) (cargs:Array Value),h (V×Store) args S K0=some (v,S')->Now M S->cargs.size=args.length ->
  (∀j (h:j<args.length),Rep M (cargs.getD j Go.undef) args[j])->CallR P g cargs M.w λcv w'=>∃M':Mem,M'.w=w'/\Step M M'/\Now M' S'/\Rep M' cv v/\S.length<=S'.length
structure InlF (P:Program) (C:Ctx):Prop where
 prim:∀g h,C.prim g=some h->SoundP P g h
 fn:∀g fn,C.inl g=some fn->∃f c,FunOK P g f c/\fn=ifun f
 loops:∀g fn,C.inl g=some fn->(InlOK P C λR=>C.inlK (C.rank g))->∀base,LoopsOK C (λR=>C.inlK (C.rank g)) g base fn.body
theorem Qxc {R:Type} (rs:List ResultVar) (k:List V->Store->Option R) (e:X) (env:Env) (S:Store):C.outK rs k e env S=(C.outK rs (λvs S=>some (vs,S)) e env S).bind λp=>k p.1 p.2:=by
 cases e<;>simp only [Ctx.outK]
 ·rw [Yu,Yu C env S rs λvs=>some (vs,S)];cases C.resK env S rs some<;>rfl
 ·rfl
 ·rw [Yu,Yu C env S rs λvs=>some (vs,S)];cases C.resK env S rs some<;>rfl
 ·rfl
theorem Qki {rs:List ResultVar} {e:X} {env:Env} {S:Store} {vs:List V} {S':Store} (h:C.outK rs (λvs S=>some (vs,S)) e env S=some (vs,S')):((∀i,e≠.exit i)/\∀l,e≠.goto l)/\C.resK env S rs some=some vs/\S'=S:=by
 have key:(C.resK env S rs λvs=>some (vs,S))=some (vs,S')->C.resK env S rs some=some vs/\S'=S:=λh=>by
  rw [Yu] at h
  simp only [Option.bind_eq_some_iff,Zs,Prod.mk.injEq] at h
  obtain ⟨us,h1,rfl,rfl⟩:=h
  exact ⟨h1,rfl⟩
 cases e<;>simp only [Ctx.outK] at h
 ·exact ⟨⟨λi hi=>by simp at hi,λi hi=>by simp at hi⟩,key h⟩
 ·simp at h
 ·exact ⟨⟨λi hi=>by simp at hi,λi hi=>by simp at hi⟩,key h⟩
 ·simp at h
theorem Qfg {I:InlP} (hI:InlOK P C I) {R:Type} (fid base:Nat) (c:Code) (env:Env) (S:Store) (rs:List ResultVar) (k:List V->Store->Option R) :
  C.evB (I R) fid base c env S (C.outK rs k)=((C.evB (I Out) fid base c env S KK).bind λp=>C.outK rs (λvs S=>some (vs,S)) p.1 p.2.1 p.2.2).bind λp=>k p.1 p.2:=by
 rw [Qtz hI]
 cases C.evB (I Out) fid base c env S KK with
 |none=>rfl
 |some p=>exact Qxc rs k p.1 p.2.1 p.2.2
theorem Qd6 (hC:Wf P C) (hF:InlF P C):∀d,InlOK P C λR=>C.inlK d
 |0=>⟨λR f args S K=>rfl,λf args S v S' M cargs h=>by simp [Ctx.inlK] at h⟩
 |
  d+1=>by
  have ih:=Qd6 hC hF d
  refine ⟨λR f args S K=>?_,λf args S v S' M cargs h hN hsz hr=>?_⟩
  ·simp only [Ctx.inlK]
   cases hp:C.prim f with
   |some h=>exact (hF.prim f h hp).nat R args S K
   |none=>
   cases hrk:Nat.beq (C.rank f) d with
   |false=>simp only [Zc];exact ih.nat R f args S K
   |true=>
   simp only [Zd]
   cases C.inl f with
   |none=>rfl
   |
    some fn=>
    simp only
    rw [Qfg ih,Qfg (R:=V×Store) ih]
    generalize (C.evB (C.inlK d) f S.length fn.body (args++List.replicate (fn.ntmps-args.length) .undef) S KK).bind _=q
    cases q<;>rfl
  ·simp only [Ctx.inlK] at h
   cases hp:C.prim f with
   |
    some pr=>
    rw [hp] at h
    exact (hF.prim f pr hp).sound args S _ _ M cargs h hN hsz hr
   |none=>
   rw [hp] at h
   simp only at h
   cases hrk:Nat.beq (C.rank f) d with
   |
    false=>
    rw [hrk] at h
    exact ih.sound f args S v S' M cargs h hN hsz hr
   |true=>
   rw [hrk] at h
   simp only [Zd] at h
   have hrank:C.rank f=d:=Nat.eq_of_beq_eq_true hrk
   cases hg:C.inl f with
   |none=>rw [hg] at h;simp at h
   |
    some fn=>
    rw [hg] at h
    simp only at h
    rw [Qfg ih] at h
    simp only [Option.bind_eq_some_iff] at h
    obtain ⟨⟨vs,S2⟩,⟨⟨e,env',S1⟩,h1,h2⟩,h3⟩:=h
    simp only [K0,Zs,Prod.mk.injEq] at h3
    obtain ⟨rfl,rfl⟩:=h3
    obtain ⟨hne,hv,rfl⟩:=Qki h2
    obtain ⟨fu,c,hfu,rfl⟩:=hF.fn f _ hg
    have hbody:=Qmv hfu
    have hloops:=hF.loops f _ hg (by rw [hrank];exact ih) S.length
    rw [hbody] at hloops h1
    rw [hrank] at hloops
    have hcalls:=Qor hC ih hfu hloops hN hsz hr h1 hne hv
    unfold CallR
    rw [hfu.enters]
    exact hcalls.mono λe w' ⟨cv,M',he,hw,h5,h6,h7,h8⟩=>by
     subst he;exact ⟨M',hw,h5,h6,h7,h8⟩
def J5:V->V
 |.agg cs=>.agg (cs.map unexact)
 |v=>unexact v
def Qja:V->V
 |.tup vs=>.tup (vs.map J5)
 |v=>J5 v
def imm3:V->Bool
 |.tup vs=>vs.all immV
 |v=>immV v
theorem Qpa {M:Mem} {cv:Value} {v:V} (h:Rep M cv v):Rep M cv (unexact v):=by
 cases v<;>simp only [unexact]<;>try exact h
 all_goals
  cases h with
  |imm h=>exact .imm (Qd7 h rfl)
  |ref h=>exact h.2.elim
theorem Qgx {M:Mem} {cv:Value} {v:V} (h:Rep M cv v):Rep M cv (J5 v):=by
 cases v with
 |
  agg cs=>
  obtain ⟨cvs,rfl,hl,ho,hr⟩:=Wn h
  exact .agg cvs _ (by simpa using hl) (λj hj=>ho j (by simpa using hj)) λj hj=>by
   rw [List.getElem_map];exact Qpa (hr j (by simpa using hj))
 |_=>exact Qpa h
theorem Qq7 {M:Mem} {cv:Value} {v:V} (h:Rep M cv v):Rep M cv (Qja v):=by
 cases v with
 |
  tup cs=>
  obtain ⟨cvs,rfl,hl,hr⟩:=Qbg h
  exact .tup cvs _ (by simpa using hl) λj hj=>by
   rw [List.getElem_map];exact Qgx (hr j (by simpa using hj))
 |_=>exact Qgx h
theorem Qvp {M:Mem} {cv:Value} {v:V} (h:Rep M cv v) (hi:imm3 v=true):Rep0 M.O M.w cv v:=by
 cases v with
 |
  tup cs=>
  obtain ⟨cvs,rfl,hl,hr⟩:=Qbg h
  exact .tup cvs cs hl λj hj=>Qby (hr j hj) (List.all_eq_true.1 hi _ (List.getElem_mem hj))
 |_=>exact Qby h hi
def mem0 (O:Nat->Prop) (w:World):Mem:=⟨w,O,λ_=>none,λ_=>.dead⟩
theorem Qwo {O:Nat->Prop} {w:World} (h:∀b,O b->b<w.heap.size):Now (mem0 O w) []:=
 ⟨⟨λid loc h=>by simp [mem0] at h,λid id' b o o' cap cap' h1=>by simp [mem0,Blk.own] at h1,h⟩,λid=>by simp [mem0],λid _=>rfl⟩
theorem Qeg (hC:Wf P C) (hF:InlF P C) {g:Nat} {f:Func} {c:Code} (hf:FunOK P g f c) (hL:LoopsOK C (λR=>C.inlK 6) g 0 c) {vs vs0:List V} {p:Pack} {dec:V->Option p.ρ}
  (hvs:vs.map J5=vs0) (link:C.evTop g (ifun f) vs0 dec=p.m) (hdec:∀v r,dec v=some r->Qja v=p.enc r/\imm3 (p.enc r)=true):SoundC P g vs p:=by
 intro O w args r hm hsz hrep hO
 have ih:=Qd6 hC hF 6
 have hN:=Qwo hO
 rw [hm] at link
 have hsz0:args.size=vs0.length:=by rw [<-hvs];simpa using hsz
 have hrep0:∀j (h:j<vs0.length),Rep (mem0 O w) (args.getD j Go.undef) vs0[j]:=λj hj=>by
  subst hvs
  rw [List.getElem_map]
  exact Qgx (.imm (hrep j (by simpa using hj)))
 unfold Ctx.evTop at link
 rw [Qfg ih] at link
 simp only [Option.bind_eq_some_iff] at link
 obtain ⟨⟨us,S'⟩,⟨⟨e,env',S1⟩,h1,h2⟩,h3⟩:=link
 obtain ⟨hne,h2',rfl⟩:=Qki h2
 rw [Qmv hf] at h1
 have hcalls:=Qor (S:=[]) hC ih hf hL hN hsz0 hrep0 h1 hne h2'
 unfold CallR
 rw [hf.enters]
 refine hcalls.mono λe w' ⟨cv,M',he,hw,h5,h6,h7,_⟩=>?_
 subst he
 subst hw
 obtain ⟨M2,hfz⟩:=Qdh us h6.ok h6.is
 have hN2:=hfz.now h6
 have hst:=h5.trans hfz.step
 refine ⟨⟨h5.os,h5.tape,h5.output,h5.size,λk hk _=>(h5.keep k hk λ⟨id,o,cap,h,_⟩=>by simp [mem0,Blk.own] at h).1⟩,?_⟩
 have himm:∀v∈us,∀{cv},Rep M' cv v->Rep M2 cv (immDeep S' v):=λv hv cv h=>by
  have h8:=Qg0 hN2.ok hN2.is (hfz.step.rep h6.ok h) λu hu=>Qc6 us (.inr ⟨v,hv,hu⟩)
  have h9:immDeep (Q9 S' us) v=immDeep S' v:=by
   have hh:=Qdv hfz.content
   unfold immDeep
   split
   ·congr 1;exact List.map_congr_left λu _=>hh u
   ·exact hh _
  rwa [h9] at h8
 have h8:Rep M2 cv (one (us.map (immDeep S'))):=by
  match us,h7,himm with
  |
   [],h7,_=>
   obtain ⟨cvs,rfl,hl,hr⟩:=Qbg h7
   exact .tup cvs [] hl λj hj=>by simp at hj
  |[v],h7,himm=>exact himm v (by simp) h7
  |
   v::u::rest,h7,himm=>
   obtain ⟨cvs,rfl,hl,hr⟩:=Qbg h7
   refine .tup cvs ((v::u::rest).map (immDeep S')) (by simpa using hl) λj hj=>?_
   have hj':j<(v::u::rest).length:=by simpa using hj
   have e1:((v::u::rest).map (immDeep S'))[j]=immDeep S' (v::u::rest)[j]:=List.getElem_map ..
   rw [e1];exact himm _ (List.getElem_mem _) (hr j hj')
 obtain ⟨h9,h10⟩:=hdec _ _ h3
 have h11:=Qq7 h8
 rw [h9] at h11
 have h12:=Qvp h11 h10
 have hw2:M2.w=M'.w:=hfz.w
 rw [hw2] at h12
 refine h12.mono (λa v _ h=>h) λa v hno hcell hOa=>hno ?_
 have hlt:=hO _ hOa
 have:=(hst.keep a.block hlt λ⟨id,o,cap,h,_⟩=>by simp [mem0,Blk.own] at h).2
 exact this.2 hOa
theorem Qre {σ R:Type} {F:(σ->Option R)->σ->Option R} {x:σ} {o:R} (h:lfp F x=some o):∃N,Q8 F N x=some o:=by
 unfold lfp at h
 split at h
 ·exact ⟨_,h⟩
 ·simp at h
theorem Qw2 (hI:InlOK P C I) {R:Type} (fid id base:Nat) (b:Code) (n:Nat) (k:Env×Store->Option R) (d:Out->Option R) (st:Env×Store) {R':Type} (g:R->R') :
  C.loopPI (I R') fid id base b n (λst=>(k st).map g) (λp=>(d p).map g) st=(C.loopPI (I R) fid id base b n k d st).map g:=by
 unfold Ctx.loopPI
 rw [Qx hI,Qx (R:=R) hI]
 cases C.evK (I Out) fid base b st.1 st.2 KK with
 |none=>rfl
 |
  some p=>
  obtain ⟨e,env,S⟩:=p
  cases e<;>rfl
theorem Qpg (hI:InlOK P C I) {σ τ:Type} {F:∀R:Type,(σ->Option R)->(τ->Option R)->σ->Option R} {fid id base n:Nat} {b:Code} {enc:σ->Env×Store} {dec:Env×Store->Option σ} {out:τ->Out} {decO:Out->Option τ}
  (hdec:∀x,dec (enc x)=some x) (hout:∀o,decO (out o)=some o)
  (link:∀(R:Type) (k:Env×Store->Option R) (d:Out->Option R) (x:σ),C.loopPI (I R) fid id base b n k d (enc x)=F R (λx'=>k (enc x')) (λo=>d (out o)) x) {x:σ} {o:τ}
  (h:lfp (λrec x=>F τ rec some x) x=some o):∃N,Q8 (C.loopG (I Out) fid id base b n) N (enc x)=some (out o):=by
 have hF:∀(R:Type) (rec:σ->Option R) (done:τ->Option R) (x:σ),F R rec done x=C.loopPI (I R) fid id base b n (λst=>(dec st).bind rec) (λp=>(decO p).bind done) (enc x):=λR rec done x=>by
  rw [link];simp only [hdec,hout,Zb]
 have nat:∀(R R':Type) (g:R->R') (rec:σ->Option R) (done:τ->Option R) (x:σ),F R' (λx=>(rec x).map g) (λo=>(done o).map g) x=(F R rec done x).map g:=λR R' g rec done x=>by
  rw [hF R,hF R',<-Qw2 hI]
  congr 1
  ·funext st;cases dec st<;>rfl
  ·funext p;cases decO p<;>rfl
 have key:∀N x,Q8 (C.loopG (I Out) fid id base b n) N (enc x)=(Q8 (λrec x=>F τ rec some x) N x).map out:=by
  intro N
  induction N with
  |zero=>intro x;rfl
  |
   succ N ihN=>
   intro x
   show C.loopPI (I Out) fid id base b n (Q8 (C.loopG (I Out) fid id base b n) N) some (enc x)=(F τ (Q8 (λrec x=>F τ rec some x) N) some x).map out
   rw [link,<-nat]
   congr 1
   funext x';exact ihN x'
 obtain ⟨N,hN⟩:=Qre h
 exact ⟨N,by rw [key,hN];rfl⟩
mutual
theorem Qik:∀(f v:V) (ls rest:List Leaf),matchV f v=some ls->fillF f (ls++rest)=(v,rest)
 |.undef,v,ls,rest,h=>by cases v<;>simp [matchV] at h;subst h;simp [fillF]
 |.bool b,v,ls,rest,h=>by cases v<;>simp [matchV] at h;subst h;simp [fillF]
 |.int k n,v,ls,rest,h=>by cases v<;>simp [matchV] at h;obtain ⟨rfl,rfl⟩:=h;simp [fillF]
 |.flt n,v,ls,rest,h=>by cases v<;>simp [matchV] at h;subst h;simp [fillF]
 |.str s,v,ls,rest,h=>by cases v<;>simp [matchV] at h;subst h;simp [fillF]
 |.ints x k l,v,ls,rest,h=>by cases v<;>simp [matchV] at h;obtain ⟨⟨rfl,rfl⟩,rfl⟩:=h;simp [fillF]
 |.strs x l,v,ls,rest,h=>by cases v<;>simp [matchV] at h;obtain ⟨rfl,rfl⟩:=h;simp [fillF]
 |.recs x z l,v,ls,rest,h=>by cases v<;>simp [matchV] at h;obtain ⟨⟨rfl,rfl⟩,rfl⟩:=h;simp [fillF]
 |.nilp,v,ls,rest,h=>by cases v<;>simp [matchV] at h;subst h;simp [fillF]
 |.ptr id off,v,ls,rest,h=>by cases v<;>simp [matchV] at h;obtain ⟨⟨rfl,rfl⟩,rfl⟩:=h;simp [fillF]
 |.sref id off,v,ls,rest,h=>by cases v<;>simp [matchV] at h;obtain ⟨⟨rfl,rfl⟩,rfl⟩:=h;simp [fillF]
 |.sview id off lo n,v,ls,rest,h=>by cases v<;>simp [matchV] at h;obtain ⟨⟨rfl,rfl⟩,rfl⟩:=h;simp [fillF]
 |
  .agg cs,v,ls,rest,h=>by
  cases v<;>simp only [matchV] at h<;>try (simp at h;done)
  have:=Qca cs _ ls rest h
  simp only [fillF,this]
 |
  .cptr cs,v,ls,rest,h=>by
  cases v<;>simp only [matchV] at h<;>try (simp at h;done)
  have:=Qca cs _ ls rest h
  simp only [fillF,this]
 |
  .func f cs,v,ls,rest,h=>by
  cases v<;>simp only [matchV] at h<;>try (simp at h;done)
  split at h
  case isFalse=>simp at h
  rename_i e
  subst e
  have:=Qca cs _ ls rest h
  simp only [fillF,this]
 |.nilf,v,ls,rest,h=>by cases v<;>simp [matchV] at h;subst h;simp [fillF]
 |.nili,v,ls,rest,h=>by cases v<;>simp [matchV] at h;subst h;simp [fillF]
 |.nilm,v,ls,rest,h=>by cases v<;>simp [matchV] at h;subst h;simp [fillF]
 |.eptr ..,v,ls,rest,h=>by cases v<;>simp [matchV] at h
 |.tup _,v,ls,rest,h=>by cases v<;>simp [matchV] at h
 |.iface _ _,v,ls,rest,h=>by cases v<;>simp [matchV] at h
 |.mapr _,v,ls,rest,h=>by cases v<;>simp [matchV] at h
theorem Qca:∀(fs vs:List V) (ls rest:List Leaf),Yt fs vs=some ls->fillFL fs (ls++rest)=(vs,rest)
 |[],[],ls,rest,h=>by simp [Yt] at h;subst h;simp [fillFL]
 |[],_::_,ls,rest,h=>by simp [Yt] at h
 |_::_,[],ls,rest,h=>by simp [Yt] at h
 |
  f::fs,v::vs,ls,rest,h=>by
  simp only [Yt] at h
  split at h
  case h_2=>simp at h
  rename_i a b h1 h2
  simp only [Zs] at h
  subst h
  have e1:=Qik f v a (b++rest) h1
  have e2:=Qca fs vs b rest h2
  simp only [fillFL,List.append_assoc,e1,e2]
end
theorem Qur (f v:Blk) (ls rest:List Leaf) (h:matchB f v=some ls):fillB f (ls++rest)=(v,rest):=by
 cases f<;>cases v<;>simp only [matchB] at h<;>try (simp at h;done)
 ·split at h
  case isFalse=>simp at h
  rename_i e
  subst e
  simp only [fillB,Qca _ _ ls rest h]
 ·split at h
  case isFalse=>simp at h
  rename_i e
  obtain ⟨rfl,rfl,rfl⟩:=e
  simp only [fillB,Qik _ _ ls rest h]
 ·split at h
  case isFalse=>simp at h
  rename_i e
  subst e
  simp only [fillB,Qik _ _ ls rest h]
 ·simp only [Zs] at h;subst h;simp [fillB]
 ·simp only [Zs] at h;subst h;simp [fillB]
theorem Qnk:∀(fs vs:Store) (ls rest:List Leaf),Qas fs vs=some ls->fillS fs (ls++rest)=(vs,rest)
 |[],[],ls,rest,h=>by simp [Qas] at h;subst h;simp [fillS]
 |[],_::_,ls,rest,h=>by simp [Qas] at h
 |_::_,[],ls,rest,h=>by simp [Qas] at h
 |
  f::fs,v::vs,ls,rest,h=>by
  simp only [Qas] at h
  split at h
  case h_2=>simp at h
  rename_i a b h1 h2
  simp only [Zs] at h
  subst h
  have e1:=Qur f v a (b++rest) h1
  have e2:=Qnk fs vs b rest h2
  simp only [fillS,List.append_assoc,e1,e2]
theorem Qx0 {f st:Env×Store} {ls:List Leaf} (h:matchSt f st=some ls):Qb f ls=st:=by
 unfold matchSt at h
 split at h
 case h_2=>simp at h
 rename_i a b h1 h2
 simp only [Zs] at h
 subst h
 have e1:=Qca f.1 st.1 a b h1
 have e2:=Qnk f.2 st.2 b [] h2
 rw [List.append_nil] at e2
 simp only [Qb,e1,e2]
theorem Qn {c:Code} (h:Ql c=true) {id:Nat} {b:Code} (hm:(id,b)∈loopList c):b=Qg id c:=by
 unfold Ql at h
 unfold Qg
 generalize loopList c=l at h hm
 induction l with
 |nil=>simp at hm
 |
  cons p l ih=>
  simp only [Ql.go,Bool.and_eq_true,Bool.not_eq_true',List.any_eq_false] at h
  obtain ⟨h1,h2⟩:=h
  rcases List.mem_cons.1 hm with e|hm
  ·subst e;simp
  ·have hne:p.1≠id:=λe=>h1 _ hm (by simp [e])
   have:=ih h2 hm
   rw [List.lookup_cons]
   have hb:(id == p.1)=false:=by simp;exact λe=>hne e.symm
   rw [hb];exact this
end
end Go.Proofs.YtgjncgiekniniaaGreatDoor.A
end
section
namespace Go.Proofs.YtgjncgiekniniaaGreatDoor.A
open Go Go.RowKit
def un:Nat->List V->List V
 |0,l=>l
 |n+1,l=>.undef::un n l
class LD (σ:Type) where
 rd:List Leaf->Option (σ×List Leaf)
instance:LD Bool:=⟨fun | .b x::r=>some (x,r)|_=>none⟩
instance:LD Int:=⟨fun | .i x::r=>some (x,r)|_=>none⟩
instance:LD Nat:=⟨fun | .n x::r=>some (x,r)|_=>none⟩
instance:LD J1:=⟨fun | .s x::r=>some (x,r)|_=>none⟩
instance:LD J0:=⟨fun | .li x::r=>some (x,r)|_=>none⟩
instance:LD (List J1):=⟨fun | .ls x::r=>some (x,r)|_=>none⟩
instance:LD J2:=⟨fun | .lr x::r=>some (x,r)|_=>none⟩
instance:LD Unit:=⟨λl=>some ((),l)⟩
instance {α β:Type} [LD α] [LD β]:LD (α×β):=⟨λl=>match (LD.rd l:Option (α×List Leaf)) with
 |some (a,r)=>(match (LD.rd r:Option (β×List Leaf)) with|some (b,r)=>some ((a,b),r)|none=>none)
 |none=>none⟩
def pickL (ls:List Leaf):List Nat->List Leaf
 |[]=>[]
 |i::is=>match ls[i]? with|some x=>x::pickL ls is|none=>pickL ls is
def decS {σ:Type} [LD σ] (sh:Env×Store) (is:List Nat) (st:Env×Store):Option σ:=
 match matchSt sh st with
 |some ls=>(match (LD.rd (pickL ls is):Option (σ×List Leaf)) with|some (a,_)=>some a|none=>none)
 |none=>none
def X.same:X->X->Bool
 |.normal,.normal=>true
 |.ret,.ret=>true
 |.exit i,.exit j=>Nat.beq i j
 |_,_=>false
def Qi6 {τ τ':Type} [LD τ] [LD τ'] (k:X) (so:Env×Store) (os:List Nat) (so':Env×Store) (os':List Nat) (p:X×Env×Store):Option (τ⊕τ'):=
 bif X.same p.1 k then (decS so os p.2:Option τ).map .inl else (decS so' os' p.2:Option τ').map .inr
section
variable {P:Program} {C:Ctx}
def Qi (C:Ctx) (d fid id base:Nat) (b:Code) (sh:Env×Store) (pk:List Leaf->Option LPack):Prop:=
 ∀st p,(matchSt sh st).bind pk=some p->p.sound (C.loopG (C.inlK d) fid id base b st.2.length) st
theorem Qj {d fid id base:Nat} {b:Code} {sh:Env×Store} {pk:List Leaf->Option LPack} (h:∀ls p,pk ls=some p->p.sound (C.loopG (C.inlK d) fid id base b (Qb sh ls).2.length) (Qb sh ls)):Qi C d fid id base b sh pk:=by
 intro st p hp
 obtain ⟨ls,h1,h2⟩:=Option.bind_eq_some_iff.1 hp
 rw [<-Qx0 h1]
 exact h ls p h2
theorem Qk {d:Nat} (hI:InlOK P C λR=>C.inlK d) {σ τ:Type} [LD σ] [LD τ] {fid id base n:Nat} {b:Code} {sh so st:Env×Store} {F:∀R:Type,(σ->Option R)->(τ->Option R)->σ->Option R} {enc:σ->Env×Store} {out:τ->Out} (is os:List Nat) (x:σ)
  (hx:st=enc x) (hn:(enc x).2.length=n) (hdec:∀x,decS sh is (enc x)=some x) (hout:∀o,decS so os (out o).2=some o)
  (link:∀(R:Type) (k:Env×Store->Option R) (d':Out->Option R) (x:σ),C.loopPI (C.inlK d) fid id base b n k d' (enc x)=F R (λx'=>k (enc x')) (λo=>d' (out o)) x) :
  (LPack.one τ (lfp (λrec x=>F τ rec some x) x) out).sound (C.loopG (C.inlK d) fid id base b st.2.length) st:=by
 rw [hx,hn]
 intro o ho
 exact Qpg (I:=λR=>C.inlK d) hI (dec:=decS sh is) (decO:=λp=>decS so os p.2) hdec hout link ho
theorem Yy {d:Nat} (hI:InlOK P C λR=>C.inlK d) {σ τ τ':Type} [LD σ] [LD τ] [LD τ'] {fid id base n:Nat} {b:Code} {sh so so' st:Env×Store} {F:∀R:Type,(σ->Option R)->(τ⊕τ'->Option R)->σ->Option R} {enc:σ->Env×Store} {out:τ->Out} {out':τ'->Out} (k:X) (is os os':List Nat) (x:σ)
  (hx:st=enc x) (hn:(enc x).2.length=n) (hdec:∀x,decS sh is (enc x)=some x) (hout:∀o,Qi6 (τ:=τ) (τ':=τ') k so os so' os' (out o)=some (.inl o)) (hout':∀o,Qi6 (τ:=τ) (τ':=τ') k so os so' os' (out' o)=some (.inr o))
  (link:∀(R:Type) (k:Env×Store->Option R) (d':Out->Option R) (x:σ),C.loopPI (C.inlK d) fid id base b n k d' (enc x)=F R (λx'=>k (enc x')) (λo=>match o with | .inl o=>d' (out o) | .inr o=>d' (out' o)) x) :
  (LPack.two τ τ' (lfp (λrec x=>F (τ⊕τ') rec some x) x) out out').sound (C.loopG (C.inlK d) fid id base b st.2.length) st:=by
 rw [hx,hn]
 intro o ho
 have key:=Qpg (I:=λR=>C.inlK d) hI (dec:=decS sh is) (decO:=Qi6 (τ:=τ) (τ':=τ') k so os so' os') (out:=λo=>match o with | .inl o=>out o | .inr o=>out' o) hdec (λo=>match o with | .inl o=>hout o | .inr o=>hout' o)
  (λR k d' x=>(link R k d' x).trans (congrArg (λdn=>F R (λx'=>k (enc x')) dn x) (funext λo=>by cases o<;>rfl))) ho
 obtain ⟨N,hN⟩:=key
 exact ⟨N,hN.trans (by cases o<;>rfl)⟩
def Q2 {ρ:Type} (dec:V->Option ρ) (enc:ρ->V):Prop:=∀v r,dec v=some r->Qja v=enc r/\imm3 (enc r)=true
theorem Qf (hT:C.T.check P=true) (hm:P.follows .mixedOrders=true) (hp:C.prim=λ_=>none) (hi:C.inl=λ_=>none) (hc:C.clone=λ_=>none) (hl:C.L=λ_ _ _ _=>none)
  (call:∀g vs p,C.call g vs=some p->SoundC P g vs p) {g:Nat} {f:Func} {c:Code} (hf:FunOK P g f c) {vs vs0:List V} {p:Pack} {dec:V->Option p.ρ}
  (hvs:vs.map J5=vs0) (link:C.evTop g (ifun f) vs0 dec=p.m) (hdec:Q2 dec p.enc) (hmt:C.meth=λ_ _=>none:=by rfl):SoundC P g vs p:=
 Qeg ⟨hT,hm,λg vs p _ _ h=>call g vs p h,λg e _ h=>by rw [hc] at h;simp at h,λt m g h=>by rw [hmt] at h;simp at h⟩
  ⟨λg h hh=>by rw [hp] at hh;simp at hh,λg fn h=>by rw [hi] at h;simp at h,λg fn h=>by rw [hi] at h;simp at h⟩ hf
  (λid b _ st p hp=>by rw [hl] at hp;simp at hp) hvs link hdec
theorem Qq (hT:C.T.check P=true) (hm:P.follows .mixedOrders=true) (hp:C.prim=λ_=>none) (hi:C.inl=λ_=>none) (hc:C.clone=λ_=>none)
  (call:∀g vs p,C.call g vs=some p->SoundC P g vs p) {g:Nat} {f:Func} {c:Code} (hf:FunOK P g f c)
  (hL:(InlOK P C λR=>C.inlK 6)->LoopsOK C (λR=>C.inlK 6) g 0 c) {vs vs0:List V} {p:Pack} {dec:V->Option p.ρ}
  (hvs:vs.map J5=vs0) (link:C.evTop g (ifun f) vs0 dec=p.m) (hdec:Q2 dec p.enc) (hmt:C.meth=λ_ _=>none:=by rfl):SoundC P g vs p:=by
 have hC:Wf P C:=⟨hT,hm,λg vs p _ _ h=>call g vs p h,λg e _ h=>by rw [hc] at h;simp at h,λt m g h=>by rw [hmt] at h;simp at h⟩
 have hF:InlF P C:=⟨λg h hh=>by rw [hp] at hh;simp at hh,λg fn h=>by rw [hi] at h;simp at h,λg fn h=>by rw [hi] at h;simp at h⟩
 exact Qeg hC hF hf (hL (Qd6 hC hF 6)) hvs link hdec
theorem Qa4 (hT:C.T.check P=true) (hm:P.follows .mixedOrders=true) (hc:C.clone=λ_=>none)
  (call:∀g vs p,C.call g vs=some p->SoundC P g vs p) (hF:InlF P C) {g:Nat} {f:Func} {c:Code} (hf:FunOK P g f c)
  (hL:(InlOK P C λR=>C.inlK 6)->LoopsOK C (λR=>C.inlK 6) g 0 c) {vs vs0:List V} {p:Pack} {dec:V->Option p.ρ}
  (hvs:vs.map J5=vs0) (link:C.evTop g (ifun f) vs0 dec=p.m) (hdec:Q2 dec p.enc) (hmt:C.meth=λ_ _=>none:=by rfl):SoundC P g vs p:=by
 have hC:Wf P C:=⟨hT,hm,λg vs p _ _ h=>call g vs p h,λg e _ h=>by rw [hc] at h;simp at h,λt m g h=>by rw [hmt] at h;simp at h⟩
 exact Qeg hC hF hf (hL (Qd6 hC hF 6)) hvs link hdec
theorem Qwh (hT:C.T.check P=true) (hm:P.follows .mixedOrders=true) (hp:C.prim=λ_=>none) (hi:C.inl=λ_=>none) (hc:C.clone=λ_=>none) (hl:C.L=λ_ _ _ _=>none)
  (call:∀g vs p,C.call g vs=some p->SoundC P g vs p) (hmt:∀t m g,C.meth t m=some g->MethOK P t m g) {g:Nat} {f:Func} {c:Code} (hf:FunOK P g f c) {vs vs0:List V} {p:Pack} {dec:V->Option p.ρ}
  (hvs:vs.map J5=vs0) (link:C.evTop g (ifun f) vs0 dec=p.m) (hdec:Q2 dec p.enc):SoundC P g vs p:=
 Qeg ⟨hT,hm,λg vs p _ _ h=>call g vs p h,λg e _ h=>by rw [hc] at h;simp at h,hmt⟩
  ⟨λg h hh=>by rw [hp] at hh;simp at hh,λg fn h=>by rw [hi] at h;simp at h,λg fn h=>by rw [hi] at h;simp at h⟩ hf
  (λid b _ st p hp=>by rw [hl] at hp;simp at hp) hvs link hdec
theorem noLoops (hl:C.L=λ_ _ _ _=>none) (I:InlP) (g base:Nat) (c:Code):LoopsOK C I g base c:=λid b _ st p hp=>by rw [hl] at hp;simp at hp
end
def cloneP (x0:V) (e bytes:Nat):Qih:=λ_ args S K=>match args with
 |
  [x]=>match W8 x0 (immOf S x),lenOf S x with
  |some c,some n=>if n*bytes<=140737488355328 then K (.sref S.length 0) (S++[.arr 0 true e c]) else none
  |_,_=>none
 |_=>none
def Qxj (t tb:Nat) (p0 p1 p2 p3 p4 p5 p6 p7:String) (a0 a1 a2 a3 a4 a5 a6 a7:Array Edge) (i0 i1 i2 i3:Nat):Code:=
 .seq (.region i0 #[⟨some 2,.assign (.const (.slice none 0 0)),t,p0,a0,none⟩] false)
  (.seq (.seq (.region i1 #[⟨some 3,.move (.tmp 0),t,p1,a1,none⟩,⟨some 4,.binOp .eql t (.tmp 3) (.const (.slice none 0 0)) t,tb,p2,a2,none⟩] false)
    (.cond (.tmp 4) (.seq (.region i2 #[⟨some 2,.assign (.const (.slice none 0 0)),t,p3,a3,none⟩] false) .ret) .skip))
   (.seq (.region i3 #[⟨some 5,.buildSlice t 0 #[],t,p4,a4,none⟩,⟨some 6,.move (.tmp 0),t,p5,a5,none⟩,
     ⟨some 7,.call {callee:=.builtin .append,args:=#[.tmp 5,.tmp 6],argTypes:=#[t,t]},t,p6,a6,none⟩,⟨some 2,.assign (.tmp 7),t,p7,a7,none⟩] false) .ret))
section
variable {P:Program} {C:Ctx}
theorem J6 {ops:Array Oper} {Q:Exit->Act->World->Prop} {i:Nat} {rest:List Nat} {a:Act} {w:World} {o:Oper} (ho:ops[i]? = some o) (hg:o.guard=none) (h:o.wp P a w (wpOps P ops Q rest) Q):wpOps P ops Q (i::rest) a w:=by
 simp only [wpOps,ho]
 rw [if_pos (by simp [Region.wanted,hg])]
 exact .inl h
theorem J7 {a:Act} {dst:Option Tmp} {v:Value}:(a.put dst v).tmps.size=a.tmps.size:=by cases dst<;>simp [Act.put]
theorem eval_put {a:Act} {d:Nat} {v:Value} (h:d<a.tmps.size):(a.put (some d) v).eval (.tmp d)=v:=by simp [Act.put,Act.eval,h]
theorem Qa9 {a:Act} {d t:Nat} {v:Value} (h:d≠t):(a.put (some d) v).eval (.tmp t)=a.eval (.tmp t):=Act.eval_put λd' hd=>by simp only [Zs] at hd;subst hd;exact λe=>h (by cases e;rfl)
theorem Qu7 {t e:Nat} {x0 x c:V} {S:Store} {n:Nat} (hd:(C.ty t).d=.slice e) (hbad:C.bad e=false) (hb0:(C.ty e).bytes≠0) (h1:isExact x0=true) (h2:isNil x0=true) (h3:zOf x0=(C.ty e).size)
  (happ:W8 x0 (immOf S x)=some c) (hn:lenOf S x=some n) (hle:n*(C.ty e).bytes<=140737488355328):C.appendV t S x0 x K0=some (.sref S.length 0,S++[.arr 0 true e c]):=by
 have hl0:lenOf S x0=some 0:=by
  unfold isNil at h2
  split at h2<;>first|rfl|simp at h2
 unfold Ctx.appendV
 simp only [hd,hbad,hl0,hn,Bool.false_eq_true,if_false,hb0,Nat.zero_add,if_pos hle]
 cases x0<;>simp [isExact] at h1<;>subst h1<;>simp only [isExact,h2,h3,happ,and_self,if_true,Zd]
theorem Qw4 (hT:C.T.check P=true) {g:Nat} {f:Func} {t tb e:Nat} {p0 p1 p2 p3 p4 p5 p6 p7:String} {a0 a1 a2 a3 a4 a5 a6 a7:Array Edge} {i0 i1 i2 i3:Nat}
  (hf:FunOK P g f (Qxj t tb p0 p1 p2 p3 p4 p5 p6 p7 a0 a1 a2 a3 a4 a5 a6 a7 i0 i1 i2 i3)) (hres:f.results = #[.tmp 2]) (hnt:8<=f.ntmps)
  (hd:(C.ty t).d=.slice e) (hbad:C.bad e=false) {bytes:Nat} (hby:(C.ty e).bytes=bytes) (hb0:bytes≠0) {x0:V} (hb:C.buildSliceV t 0 []=some x0) (h1:isExact x0=true) (h2:isNil x0=true) (h3:zOf x0=(C.ty e).size):SoundP P g (cloneP x0 e bytes):=by
 subst hby
 refine ⟨λR args S K=>?_,λargs S v S' M cargs h hN hsz hr=>?_⟩
 ·unfold cloneP
  repeat' split
  all_goals rfl
 simp only [cloneP,K0] at h
 split at h
 case h_2=>simp at h
 rename_i x
 split at h
 case h_2=>simp at h
 rename_i c n happ hn
 split at h
 case isFalse=>simp at h
 rename_i hle
 simp only [Zs,Prod.mk.injEq] at h
 obtain ⟨rfl,rfl⟩:=h
 obtain ⟨cx,rfl⟩:∃cx,cargs = #[cx]:=⟨cargs.getD 0 Go.undef,by
  apply Array.ext
  ·simpa using hsz
  ·intro i hi hi'
   have:i=0:=by simp at hi';exact hi'
   subst this;simp [Array.getD_eq_getD_getElem?,hi]⟩
 have hx:Rep M cx x:=by simpa using hr 0 (by simp)
 obtain ⟨A,cap,rfl⟩:=Qn0 hN.ok (λid _=>hN.is id) hn hx
 have hu:=(Yn hT hd).1
 have hq:=hN.fresh S.length (Nat.le_refl _)
 have hev:=Qu7 hd hbad hb0 h1 h2 h3 happ hn hle
 unfold CallR
 rw [hf.enters]
 simp only
 refine calls_of_wp hf.get hf.body ?_
 generalize hact:(⟨#[.slice A n cap]++Array.replicate (f.ntmps-(#[Value.slice A n cap]:Array Value).size) Go.undef,[]⟩:Act)=act
 have hs0:8<=act.tmps.size:=by rw [<-hact];simp;omega
 have he0:act.eval (.tmp 0)=.slice A n cap:=by
  rw [<-hact]
  show (#[Value.slice A n cap]++Array.replicate _ Go.undef).getD 0 Go.undef=_
  rw [Array.getD_eq_getD_getElem?,Array.getElem?_append_left (by simp)];rfl
 have hdf:act.defers=[]:=by rw [<-hact]
 clear hact
 refine wp_seq (wp_region ?_)
 show wpOps P _ _ [0] _ _
 refine J6 (o:=⟨some 2,.assign (.const (.slice none 0 0)),t,p0,a0,none⟩) rfl rfl (Yk (cv:=.slice none 0 0) (w':=M.w) (by simp [execOp,Act.eval]) ?_)
 show (Code.seq _ _).wp P _ (act.put (some 2) (.slice none 0 0)) M.w
 refine wp_seq (wp_seq (wp_region ?_))
 show wpOps P _ _ [0,1] _ _
 refine J6 (o:=⟨some 3,.move (.tmp 0),t,p1,a1,none⟩) rfl rfl (Yk (cv:=.slice A n cap) (w':=M.w) (by simp only [execOp,Qa9 (show (2:Nat)≠0 by decide),he0];rfl) ?_)
 refine J6 (o:=⟨some 4,.binOp .eql t (.tmp 3) (.const (.slice none 0 0)) t,tb,p2,a2,none⟩) rfl rfl (Yk (cv:=.bool A.isNone) (w':=M.w) (by
  have e3:((act.put (some 2) (.slice none 0 0)).put (some 3) (.slice A n cap)).eval (.tmp 3)=.slice A n cap:=eval_put (by simp only [J7];omega)
  have ec:((act.put (some 2) (.slice none 0 0)).put (some 3) (.slice A n cap)).eval (.const (.slice none 0 0))=.slice none 0 0:=rfl
  simp only [execOp,e3,ec]
  have:=Lib.run_eql_slice_nil (P:=P) M.w t e A n cap 0 0 hu
  simp [eqGuard,this]) ?_)
 generalize hact2:(((act.put (some 2) (.slice none 0 0)).put (some 3) (.slice A n cap)).put (some 4) (.bool A.isNone))=act2
 have hs2:8<=act2.tmps.size:=by rw [<-hact2];simp only [J7];exact hs0
 have he2:act2.eval (.tmp 0)=.slice A n cap:=by rw [<-hact2,Qa9 (by decide),Qa9 (by decide),Qa9 (by decide)];exact he0
 have he4:act2.eval (.tmp 4)=.bool A.isNone:=by rw [<-hact2];exact eval_put (by simp only [J7];omega)
 have hdf2:act2.defers=[]:=by rw [<-hact2];simp only [Qbz,hdf]
 clear hact2
 show (Code.cond _ _ _).wp P _ act2 M.w
 refine wp_cond he4 ?_
 have fin:∀(act3:Act) (cv:Value) (M':Mem),8<=act3.tmps.size->act3.defers=[]->act3.eval (.tmp 2)=cv->Rep M' cv (.sref S.length 0)->Post M M' S (S++[.arr 0 true e c]) [S.length] ->
   bodyPost P f (fun | .returned cv,w''=>(∃M':Mem,M'.w=w''/\Step M M'/\Now M' (S++[.arr 0 true e c])/\Rep M' cv (.sref S.length 0)/\S.length<=(S++[Blk.arr 0 true e c]).length)|_,_=>False) .ret act3 M'.w:=by
  intro act3 cv M' hs3 hd3 he3 hrep hp
  refine ⟨hd3,cv,?_,M',rfl,hp.step,hp.now hN,hrep,hp.len⟩
  have:act3.tmps.getD 2 Go.undef=cv:=by rw [<-he3];simp [Act.eval,Array.getD_eq_getD_getElem?]
  rw [Array.getD_eq_getD_getElem?] at this
  simp [results,hres,this]
 cases A with
 |
  none=>
  have hn0:n=0:=by
   obtain ⟨A',n',cap',fl,cf,e1,hfl,hz,hle',hm,_⟩:=Qa7 hN.ok (λid _=>hN.is id) hx (y:=x) (by
    unfold W8 at happ
    split at happ<;>first|(simp at happ;done)|(rename_i hh;rw [hh];rfl))
   simp only [Value.slice.injEq] at e1
   obtain ⟨e1,e2,e3⟩:=e1
   have:=hm e1.symm
   omega
  subst hn0
  simp only [Option.isNone_none,if_true]
  refine wp_seq (wp_region ?_)
  show wpOps P _ _ [0] _ _
  refine J6 (o:=⟨some 2,.assign (.const (.slice none 0 0)),t,p3,a3,none⟩) rfl rfl (Yk (cv:=.slice none 0 0) (w':=M.w) (by simp [execOp,Act.eval]) ?_)
  show Code.ret.wp P _ _ _
  refine wp_ret ?_
  have hfc:flatV c=some (0,[]):=by
   have hle2:lenV (immOf S x)=some 0:=by
    obtain ⟨A',n',cap',fl,cf,e1,hfl,_⟩:=Qa7 hN.ok (λid _=>hN.is id) hx (y:=x) (by
     unfold W8 at happ
     split at happ<;>first|(simp at happ;done)|(rename_i hh;rw [hh];rfl))
    simp only [Value.slice.injEq] at e1
    obtain ⟨_,rfl,_⟩:=e1
    exact (Qp hfl).2
   obtain ⟨A',n',cap',fl,cf,e1,hfl,_⟩:=Qa7 hN.ok (λid _=>hN.is id) hx (y:=x) (by
    unfold W8 at happ
    split at happ<;>first|(simp at happ;done)|(rename_i hh;rw [hh];rfl))
   simp only [Value.slice.injEq] at e1
   obtain ⟨_,rfl,_⟩:=e1
   have hl:=Qp hfl
   have hfl0:fl=[]:=List.eq_nil_of_length_eq_zero (by rw [hl.1];simp)
   subst hfl0
   have hx0:flatV x0=some (0,[]):=by
    unfold isNil at h2
    split at h2<;>first|(simp at h2;done)|rfl|skip
    rename_i xx z
    have hz0:0<z:=by
     simp only [zOf] at h3
     obtain ⟨_,_,_,_,_⟩:=Wu hT (t:=e) (by unfold Ctx.bad at hbad;intro hh;rw [hh] at hbad;simp at hbad)
     unfold Ctx.buildSliceV at hb
     rw [hd] at hb
     simp only [hbad,Bool.false_eq_true,if_false] at hb
     split at hb
     ·split at hb
      ·rename_i hh;rw [h3];exact Nat.pos_of_ne_zero hh.2
      ·simp at hb
     ·simp at hb
    simp [flatV,hz0]
   exact (Qch happ hx0 hfl).1
  obtain ⟨hrep,hp⟩:=Qn1 hN.ok hq hfc (e:=e)
  exact fin _ (.slice none 0 0) (M.push S.length (.arr 0 true e c) (.nil none) M.w) (by simp only [J7];exact hs2) (by rw [Qbz];exact hdf2) (eval_put (by omega)) hrep hp
 |
  some ad=>
  simp only [Option.isNone_some,Bool.false_eq_true,if_false]
  refine wp_skip ?_
  refine wp_seq (wp_region ?_)
  show wpOps P _ _ [0,1,2,3] _ _
  obtain ⟨cb,w1,hrunb,hgb,hrb⟩:=Qf9 (M:=M) hT hN.ok (qs:=#[]) hb (by simp) (λj hj=>by simp at hj)
  have hpb:=post_world hN.ok S hgb
  refine J6 (o:=⟨some 5,.buildSlice t 0 #[],t,p4,a4,none⟩) rfl rfl (Yk (cv:=cb) (w':=w1) (by simp only [execOp,Sem.run_bind,Array.map_empty] at hrunb ⊢;rw [hrunb];rfl) ?_)
  refine J6 (o:=⟨some 6,.move (.tmp 0),t,p5,a5,none⟩) rfl rfl (Yk (cv:=.slice (some ad) n cap) (w':=w1) (by simp only [execOp,Qa9 (show (5:Nat)≠0 by decide),he2];rfl) ?_)
  obtain ⟨cv,v',M',S'',wr,hruna,hK,hra,hpa,hwa⟩:=Qgd (M:={M with w:=w1}) (tx:=t) (ty:=t) hT hpb.ok (λ_=>hq) (x:=x0) (y:=x) (cx:=cb) (cy:=.slice (some ad) n cap) (λid hid=>by
    exfalso
    cases x0<;>simp [isExact] at h1<;>simp [refs1] at hid) (λid _=>hN.is id) hev (.imm hrb) (hpb.step.rep hN.ok hx) hu
  simp only [K0,Zs,Prod.mk.injEq] at hK
  obtain ⟨rfl,rfl⟩:=hK
  refine J6 (o:=⟨some 7,.call {callee:=.builtin .append,args:=#[.tmp 5,.tmp 6],argTypes:=#[t,t]},t,p6,a6,none⟩) rfl rfl (Yk (cv:=cv) (w':=M'.w) (by
   have e5:((act2.put (some 5) cb).put (some 6) (.slice (some ad) n cap)).eval (.tmp 5)=cb:=by rw [Qa9 (by decide)];exact eval_put (by omega)
   have e6:((act2.put (some 5) cb).put (some 6) (.slice (some ad) n cap)).eval (.tmp 6)=.slice (some ad) n cap:=eval_put (by simp only [J7];omega)
   simp only [execOp,resolve,invoke,Sem.run_bind,Sem.run_pure,Result.andThen_ok,List.map_toArray,List.map_cons,List.map_nil,e5,e6,builtin,hruna]) ?_)
  refine J6 (o:=⟨some 2,.assign (.tmp 7),t,p7,a7,none⟩) rfl rfl (Yk (cv:=cv) (w':=M'.w) (by
   simp only [execOp,Sem.run_pure]
   rw [eval_put (by simp only [J7];omega)]) ?_)
  show Code.ret.wp P _ _ _
  refine wp_ret ?_
  have hqr:S.length∈wr:=by
   by_cases hq':S.length∈wr
   ·exact hq'
   ·have:=hpa.keepS _ hq'
    simp [Zl] at this
  have hwr:wr ⊆ [S.length]:=λi hi=>by
   have:=hwa hi
   simp only [List.mem_append] at this
   rcases this with h4|h4
   ·exfalso;cases x0<;>simp [isExact] at h1<;>simp [refs1] at h4
   ·exact h4
  refine fin _ cv M' (by simp only [J7];exact hs2) (by simp only [Qbz];exact hdf2) (eval_put (by simp only [J7];omega)) hra ⟨hpb.step.trans hpa.step,hpa.ok,λid hid=>?_,λid hid=>?_,λid hid=>?_,λid hid=>?_,hpa.μ',hpa.len,hpa.len'⟩
  ·have:id=S.length:=by simpa using hid
   subst this;exact hpa.wrS _ hqr
  ·exact hpa.keepM id λh4=>hid (hwr h4)
  ·exact hpa.keepS id λh4=>hid (hwr h4)
  ·exact hpa.μ id hid
end
end Go.Proofs.YtgjncgiekniniaaGreatDoor.A
end
section
namespace Go.Proofs
open Go.Shelf
def Tryz.lays160_ren:Go.Shelf.Ren:=⟨fun|160=>200|232=>250|231=>249|227=>251|234=>253|233=>252|236=>255|235=>254|228=>276|271=>279|151=>278|197=>277|120=>289|152=>288|260=>287|137=>292|119=>293|224=>285|225=>284|217=>283|266=>290|n=>n,fun|9=>9|4=>4|3=>3|5=>5|117=>327|116=>326|0=>0|124=>330|21=>21|105=>348|46=>158|119=>356|139=>359|138=>358|n=>n,fun|3=>3|4=>4|n=>n⟩
theorem Tryz.lays160:Go.Proofs.Lays.n160 Tryz.prog Tryz.lays160_ren:={
 mixed:=by kernel_rfl
 f119:=Tryz.func293.trans (congrArg some (by kernel_rfl))
 f120:=Tryz.func289.trans (congrArg some (by kernel_rfl))
 f137:=Tryz.func292.trans (congrArg some (by kernel_rfl))
 f151:=Tryz.func278.trans (congrArg some (by kernel_rfl))
 f152:=Tryz.func288.trans (congrArg some (by kernel_rfl))
 f160:=Tryz.func200.trans (congrArg some (by kernel_rfl))
 f197:=Tryz.func277.trans (congrArg some (by kernel_rfl))
 f217:=Tryz.func283.trans (congrArg some (by kernel_rfl))
 f224:=Tryz.func285.trans (congrArg some (by kernel_rfl))
 f225:=Tryz.func284.trans (congrArg some (by kernel_rfl))
 f227:=Tryz.func251.trans (congrArg some (by kernel_rfl))
 f228:=Tryz.func276.trans (congrArg some (by kernel_rfl))
 f231:=Tryz.func249.trans (congrArg some (by kernel_rfl))
 f232:=Tryz.func250.trans (congrArg some (by kernel_rfl))
 f233:=Tryz.func252.trans (congrArg some (by kernel_rfl))
 f234:=Tryz.func253.trans (congrArg some (by kernel_rfl))
 f235:=Tryz.func254.trans (congrArg some (by kernel_rfl))
 f236:=Tryz.func255.trans (congrArg some (by kernel_rfl))
 f260:=Tryz.func287.trans (congrArg some (by kernel_rfl))
 f266:=Tryz.func290.trans (congrArg some (by kernel_rfl))
 f271:=Tryz.func279.trans (congrArg some (by kernel_rfl))
 t0:=Tryz.underlying0
 a0:=Tryz.isAgg0
 z0:=Tryz.sizeOf0
 v0:=Tryz.zeroValue0
 t3:=Tryz.underlying3
 a3:=Tryz.isAgg3
 z3:=Tryz.sizeOf3
 v3:=Tryz.zeroValue3
 t4:=Tryz.underlying4
 a4:=Tryz.isAgg4
 z4:=Tryz.sizeOf4
 v4:=Tryz.zeroValue4
 t5:=Tryz.underlying5
 a5:=Tryz.isAgg5
 z5:=Tryz.sizeOf5
 v5:=Tryz.zeroValue5
 t9:=Tryz.underlying9
 a9:=Tryz.isAgg9
 z9:=Tryz.sizeOf9
 v9:=Tryz.zeroValue9
 t21:=Tryz.underlying21
 a21:=Tryz.isAgg21
 z21:=Tryz.sizeOf21
 v21:=Tryz.zeroValue21
 t46:=Tryz.underlying158
 a46:=Tryz.isAgg158
 z46:=Tryz.sizeOf158
 v46:=Tryz.zeroValue158
 t105:=Tryz.underlying348
 a105:=Tryz.isAgg348
 z105:=Tryz.sizeOf348
 v105:=Tryz.zeroValue348
 t116:=Tryz.underlying326
 a116:=Tryz.isAgg326
 z116:=Tryz.sizeOf326
 t117:=Tryz.underlying327
 a117:=Tryz.isAgg327
 z117:=Tryz.sizeOf327
 v117:=Tryz.zeroValue327
 t119:=Tryz.underlying356
 a119:=Tryz.isAgg356
 z119:=Tryz.sizeOf356
 t124:=Tryz.underlying330
 a124:=Tryz.isAgg330
 z124:=Tryz.sizeOf330
 v124:=Tryz.zeroValue330
 t138:=Tryz.underlying358
 a138:=Tryz.isAgg358
 z138:=Tryz.sizeOf358
 v138:=Tryz.zeroValue358
 t139:=Tryz.underlying359
 a139:=Tryz.isAgg359
 z139:=Tryz.sizeOf359
 v139:=Tryz.zeroValue359
 g3:=by kernel_rfl
 g4:=by kernel_rfl}
def Tryz.lays161_ren:Go.Shelf.Ren:=⟨fun|161=>201|231=>249|227=>251|233=>252|235=>254|228=>276|197=>277|151=>278|260=>287|152=>288|137=>292|119=>293|224=>285|225=>284|217=>283|266=>290|n=>n,fun|9=>9|4=>4|3=>3|5=>5|117=>327|116=>326|0=>0|124=>330|105=>348|21=>21|119=>356|46=>158|139=>359|138=>358|n=>n,fun|3=>3|4=>4|n=>n⟩
theorem Tryz.lays161:Go.Proofs.Lays.n161 Tryz.prog Tryz.lays161_ren:={
 mixed:=by kernel_rfl
 f119:=Tryz.func293.trans (congrArg some (by kernel_rfl))
 f137:=Tryz.func292.trans (congrArg some (by kernel_rfl))
 f151:=Tryz.func278.trans (congrArg some (by kernel_rfl))
 f152:=Tryz.func288.trans (congrArg some (by kernel_rfl))
 f161:=Tryz.func201.trans (congrArg some (by kernel_rfl))
 f197:=Tryz.func277.trans (congrArg some (by kernel_rfl))
 f217:=Tryz.func283.trans (congrArg some (by kernel_rfl))
 f224:=Tryz.func285.trans (congrArg some (by kernel_rfl))
 f225:=Tryz.func284.trans (congrArg some (by kernel_rfl))
 f227:=Tryz.func251.trans (congrArg some (by kernel_rfl))
 f228:=Tryz.func276.trans (congrArg some (by kernel_rfl))
 f231:=Tryz.func249.trans (congrArg some (by kernel_rfl))
 f233:=Tryz.func252.trans (congrArg some (by kernel_rfl))
 f235:=Tryz.func254.trans (congrArg some (by kernel_rfl))
 f260:=Tryz.func287.trans (congrArg some (by kernel_rfl))
 f266:=Tryz.func290.trans (congrArg some (by kernel_rfl))
 t0:=Tryz.underlying0
 a0:=Tryz.isAgg0
 z0:=Tryz.sizeOf0
 v0:=Tryz.zeroValue0
 t3:=Tryz.underlying3
 a3:=Tryz.isAgg3
 z3:=Tryz.sizeOf3
 v3:=Tryz.zeroValue3
 t4:=Tryz.underlying4
 a4:=Tryz.isAgg4
 z4:=Tryz.sizeOf4
 v4:=Tryz.zeroValue4
 t5:=Tryz.underlying5
 a5:=Tryz.isAgg5
 z5:=Tryz.sizeOf5
 v5:=Tryz.zeroValue5
 t9:=Tryz.underlying9
 a9:=Tryz.isAgg9
 z9:=Tryz.sizeOf9
 v9:=Tryz.zeroValue9
 t21:=Tryz.underlying21
 a21:=Tryz.isAgg21
 z21:=Tryz.sizeOf21
 v21:=Tryz.zeroValue21
 t46:=Tryz.underlying158
 a46:=Tryz.isAgg158
 z46:=Tryz.sizeOf158
 v46:=Tryz.zeroValue158
 t105:=Tryz.underlying348
 a105:=Tryz.isAgg348
 z105:=Tryz.sizeOf348
 v105:=Tryz.zeroValue348
 t116:=Tryz.underlying326
 a116:=Tryz.isAgg326
 z116:=Tryz.sizeOf326
 t117:=Tryz.underlying327
 a117:=Tryz.isAgg327
 z117:=Tryz.sizeOf327
 v117:=Tryz.zeroValue327
 t119:=Tryz.underlying356
 a119:=Tryz.isAgg356
 z119:=Tryz.sizeOf356
 t124:=Tryz.underlying330
 a124:=Tryz.isAgg330
 z124:=Tryz.sizeOf330
 v124:=Tryz.zeroValue330
 t138:=Tryz.underlying358
 a138:=Tryz.isAgg358
 z138:=Tryz.sizeOf358
 v138:=Tryz.zeroValue358
 t139:=Tryz.underlying359
 a139:=Tryz.isAgg359
 z139:=Tryz.sizeOf359
 v139:=Tryz.zeroValue359
 g3:=by kernel_rfl
 g4:=by kernel_rfl}
end Go.Proofs
end
section
namespace Go.Proofs.YtgjncgiekniniaaGreatDoor.A
open Go Go.RowKit
def copyP (T:Nat):Qih:=λ_ args S K=>match args with
 |
  [.ptr id 0]=>match S.getD id .dead with
  |
   .cells t (p::r)=>if t=T/\r.length=1 then (match p with
   |.nilp=>K (.tup []) (S.set id (.cells t (.ptr id 0::r)))
   |.ptr id' 0=>if id'=id then K (.tup []) S else none
   |_=>none) else none
  |_=>none
 |_=>none
theorem Qth {P:Program} {g:Nat} {T:Nat} (hE:∀args w,(callFunc g args).run P w=.ok (.enter g args) w)
  (hF:∀(b:Nat) (w:World),w.cell? ⟨b,0,none⟩=some (.pointer none)->w.shape? b=some (T,2)->w.frozen? ⟨b,0,none⟩=false ->
   Calls P g #[.pointer (some ⟨b,0,none⟩)] w λe w'=>e=.returned (.tuple #[])/\w'=w.setCell ⟨b,0,none⟩ (.pointer (some ⟨b,0,none⟩)))
  (hU:∀(b:Nat) (w:World),w.cell? ⟨b,0,none⟩=some (.pointer (some ⟨b,0,none⟩)) ->
   Calls P g #[.pointer (some ⟨b,0,none⟩)] w λe w'=>e=.returned (.tuple #[])/\w'=w):SoundP P g (copyP T):=by
 refine ⟨λR args S K=>?_,λargs S v S' M cargs h hN hsz hr=>?_⟩
 ·unfold copyP
  repeat' split
  all_goals rfl
 simp only [copyP,K0] at h
 split at h
 case h_2=>simp at h
 rename_i bid
 split at h
 case h_2=>simp at h
 rename_i t p r hk
 split at h
 case isFalse=>simp at h
 rename_i hc
 obtain ⟨rfl,hrl⟩:=hc
 obtain ⟨cx,rfl⟩:∃cx,cargs = #[cx]:=⟨cargs.getD 0 Go.undef,by
  apply Array.ext
  ·simpa using hsz
  ·intro i hi hi'
   have:i=0:=by simp at hi';exact hi'
   subst this;simp [Array.getD_eq_getD_getElem?,hi]⟩
 have hx:Rep M cx (.ptr bid 0):=by simpa using hr 0 (by simp)
 have hk':M.S bid=.cells t (p::r):=(hN.is bid).trans hk
 have hR:=Yg hx
 obtain ⟨_,_,hp⟩:=hR
 obtain ⟨b,o,cap,hμ,rfl⟩:=hp (by rw [hk'];rfl)
 have hB:=hN.ok.blk bid _ hμ
 rw [hk'] at hB
 obtain ⟨_,_,_,he,hO,hlt,⟨ho,hsh⟩,hcell⟩:=hB
 cases he
 subst ho
 simp only [List.length_cons,hrl] at hsh
 obtain ⟨cv,hcv,_,hrp,hfz⟩:=hcell 0 (by simp)
 simp only [List.getElem_cons_zero,Nat.add_zero] at hcv hrp hfz
 have hend:∀{R:Value->World->Prop},(Calls P g #[.pointer (some ⟨b,0,none⟩)] M.w fun | .returned cv,w''=>R cv w''|_,_=>False)->CallR P g #[.pointer (some ⟨b,0,none⟩)] M.w R:=λ{R} h=>by
  unfold CallR;rw [hE];exact h
 show CallR P g #[.pointer (some ⟨b,0+0,none⟩)] M.w _
 refine hend ?_
 split at h
 ·simp only [Zs,Prod.mk.injEq] at h
  obtain ⟨rfl,rfl⟩:=h
  obtain rfl:=Qdb hrp
  refine (hF b M.w hcv hsh hfz).mono λe w' he=>?_
  obtain ⟨rfl,rfl⟩:=he
  obtain ⟨_,hW,hB'⟩:=Ql6 hN.ok hk' hμ (off:=0) hx rfl (by simp [cellsOf])
  have hpw:=post_write hN.ok hW hB' (Y8 hk (by simp))
  exact ⟨_,rfl,hpw.step,hpw.now hN,.imm (.tup #[] [] rfl (λj hj=>by simp at hj)),hpw.len⟩
 ·rename_i id'
  split at h
  case isFalse=>simp at h
  rename_i hid
  subst hid
  simp only [Zs,Prod.mk.injEq] at h
  obtain ⟨rfl,rfl⟩:=h
  obtain ⟨_,_,hp2⟩:=Yg hrp
  obtain ⟨b2,o2,cap2,hμ2,rfl⟩:=hp2 (by rw [hk'];rfl)
  rw [hμ] at hμ2
  cases hμ2
  refine (hU b M.w hcv).mono λe w' he=>?_
  obtain ⟨rfl,rfl⟩:=he
  exact ⟨M,rfl,.refl M,hN,.imm (.tup #[] [] rfl (λj hj=>by simp at hj)),Nat.le_refl _⟩
 ·simp at h
theorem Qmq:Tryz.f246.ntmps=20:=by kernel_rfl
set_option maxHeartbeats 1000000 in
set_option maxRecDepth 100000 in
theorem Qud (b:Nat) (w:World) (h0:w.cell? ⟨b,0,none⟩=some (.pointer (some ⟨b,0,none⟩))) :
  Calls Tryz.prog 246 #[.pointer (some ⟨b,0,none⟩)] w λe w'=>e=.returned (.tuple #[])/\w'=w:=by
 have hz:(Tryz.prog.info? 274).map (·.size)=some 2:=by kernel_rfl
 obtain ⟨j,hj,_⟩:=Option.map_eq_some_iff.1 hz
 have mixed:Tryz.prog.follows .mixedOrders=true:=by kernel_rfl
 have t72:=Tryz.underlying274;have a72:=Tryz.isAgg274;have z72:=Tryz.sizeOf274;have v72:=Tryz.zeroValue274;have u72:=run_underlying Tryz.underlying274
 have t70:=Tryz.underlying272;have a70:=Tryz.isAgg272;have z70:=Tryz.sizeOf272;have v70:=Tryz.zeroValue272;have u70:=run_underlying Tryz.underlying272
 have t4:=Tryz.underlying4;have a4:=Tryz.isAgg4;have z4:=Tryz.sizeOf4;have v4:=Tryz.zeroValue4;have u4:=run_underlying Tryz.underlying4
 have t164:=Tryz.underlying344;have a164:=Tryz.isAgg344;have z164:=Tryz.sizeOf344;have v164:=Tryz.zeroValue344;have u164:=run_underlying Tryz.underlying344
 go_enter Tryz.func246,Qmq
 go_wp2
 rw [Lib.run_neq_ptr_same w _ Tryz.underlying272 hj]
 go_wp2
 go_end0
 exact ⟨rfl,rfl⟩
set_option maxHeartbeats 1000000 in
set_option maxRecDepth 100000 in
theorem Qvn (b:Nat) (w:World) (h0:w.cell? ⟨b,0,none⟩=some (.pointer none)) (hsh:w.shape? b=some (274,2)) (hfz:w.frozen? ⟨b,0,none⟩=false) :
  Calls Tryz.prog 246 #[.pointer (some ⟨b,0,none⟩)] w λe w'=>e=.returned (.tuple #[])/\w'=w.setCell ⟨b,0,none⟩ (.pointer (some ⟨b,0,none⟩)):=by
 have hz:(Tryz.prog.info? 274).map (·.size)=some 2:=by kernel_rfl
 have hl:liesAt Tryz.prog Tryz.prog.depth 274 (2/Tryz.prog.cellsOf 274) 0 274 1=true:=by kernel_rfl
 obtain ⟨j,hj,hjs⟩:=Option.map_eq_some_iff.1 hz
 have mixed:Tryz.prog.follows .mixedOrders=true:=by kernel_rfl
 have t72:=Tryz.underlying274;have a72:=Tryz.isAgg274;have z72:=Tryz.sizeOf274;have v72:=Tryz.zeroValue274;have u72:=run_underlying Tryz.underlying274
 have t70:=Tryz.underlying272;have a70:=Tryz.isAgg272;have z70:=Tryz.sizeOf272;have v70:=Tryz.zeroValue272;have u70:=run_underlying Tryz.underlying272
 have t4:=Tryz.underlying4;have a4:=Tryz.isAgg4;have z4:=Tryz.sizeOf4;have v4:=Tryz.zeroValue4;have u4:=run_underlying Tryz.underlying4
 have t164:=Tryz.underlying344;have a164:=Tryz.isAgg344;have z164:=Tryz.sizeOf344;have v164:=Tryz.zeroValue344;have u164:=run_underlying Tryz.underlying344
 go_enter Tryz.func246,Qmq
 go_wp2
 rw [Lib.run_to_unsafe w ⟨b,0,none⟩ Tryz.underlying272 Tryz.underlying344 hj (by rw [hjs];decide) hsh (Nat.zero_lt_succ 1)]
 simp only [Result.andThen]
 rw [Oper.upon_value]
 go_wp2
 rw [run_callFunc_extern Tryz.func274 (by kernel_rfl) (by kernel_rfl) (by kernel_rfl) (e:=Extern.AbiNoEscape.same) (by kernel_rfl)]
 rw [Lib.run_noEscape]
 simp only [Result.andThen]
 rw [Oper.upon_value]
 go_wp2
 rw [Lib.run_from_unsafe w ⟨b,0,none⟩ Tryz.underlying344 Tryz.underlying272 hj hsh hl]
 simp only [Result.andThen]
 rw [Oper.upon_value]
 go_wp2
 go_end0
 exact ⟨rfl,rfl⟩
end Go.Proofs.YtgjncgiekniniaaGreatDoor.A
end
section
set_option maxRecDepth 100000
namespace Go.Proofs.YtgjncgiekniniaaGreatDoor.A
open Go Go.RowKit
section
variable {P:Program}
theorem Qae {O:Nat->Prop} {w:World} {cv:Value} {k:IntKind} {n:Int} (h:Rep0 O w cv (.int k n)):cv=.int k n:=by
 cases h with
 |int=>rfl
 |slice A n' cap v fl cf hf=>simp [flatV] at hf
theorem Qde {O:Nat->Prop} {w:World} {cv:Value} {l:J1} (h:Rep0 O w cv (.str l)):∃s:ByteArray,cv=.string s/\s.data.toList=l:=by
 cases h with
 |str s l h=>exact ⟨s,rfl,h⟩
 |slice A n' cap v fl cf hf=>simp [flatV] at hf
theorem Qn4 {args:Array Value} (h:args.size=3):args = #[args.getD 0 Go.undef,args.getD 1 Go.undef,args.getD 2 Go.undef]:=by
 apply Array.ext
 ·simp [h]
 ·intro i hi hi'
  have:i=0\/i=1\/i=2:=by simp at hi';omega
  rcases this with rfl|rfl|rfl<;>simp [Array.getD_eq_getD_getElem?,h]
theorem Qhu {args:Array Value} (h:args.size=2):args = #[args.getD 0 Go.undef,args.getD 1 Go.undef]:=by
 apply Array.ext
 ·simp [h]
 ·intro i hi hi'
  have:i=0\/i=1:=by simp at hi';omega
  rcases this with rfl|rfl<;>simp [Array.getD_eq_getD_getElem?,h]
theorem Qgr (w:World):w.grownBy w none:=⟨rfl,rfl,rfl,Nat.le_refl _,λ_ _ _=>rfl⟩
theorem Qpw {w w':World} (h:Below w.heap.size w w'):w.grownBy w' none:=⟨h.os,h.tape,h.output,h.size,λk hk _=>h.block k hk⟩
theorem Qgl {f:FuncId} {fn:Func} {e:Array Value->Sem Value} (hf:P.funcs[f]? = some fn) (hname:(fn.name == "runtime.NumGoroutine")=false) (hb:fn.body.isNone=true) (hn:Extern.findNext fn=none) (he:Extern.find fn=some e)
  {args:Array Value} {w:World} {cv:Value} {R:Value->World->Prop} (hr:(e args).run P w=.ok cv w) (h:R cv w):CallR P f args w R:=by
 unfold CallR
 rw [run_callFunc_extern hf hname hb hn he,hr]
 exact h
end
def z0.F (x y c:Int):Option (Int×Int):=if 0<=x/\0<=y/\0<=c/\c<=1 then some ((x+y+c)%18446744073709551616,(x+y+c)/18446744073709551616) else none
def z0.enc (r:Int×Int):V:=.tup [.int .u64 r.1,.int .u64 r.2]
def z0.pack:List V->Option Pack
 |[.int .u64 x,.int .u64 y,.int .u64 c]=>some ⟨Int×Int,z0.F x y c,z0.enc⟩
 |_=>none
theorem Qjo {O:Nat->Prop} {w:World} {a b:Int}:Rep0 O w (.tuple #[.int .u64 a,.int .u64 b]) (.tup [.int .u64 a,.int .u64 b]):=by
 refine .tup _ _ (by simp) λj hj=>?_
 have:j=0\/j=1:=by simp at hj;omega
 rcases this with rfl|rfl
 ·exact .int _ _
 ·exact .int _ _
theorem z0.sound (vs:List V) (p:Pack) (h:z0.pack vs=some p):SoundC Tryz.prog 183 vs p:=by
 unfold z0.pack at h
 split at h
 case h_2=>simp at h
 rename_i x y c
 simp only [Zs] at h
 subst h
 intro O w args r hm hs hr hO
 simp only [z0.F] at hm
 split at hm
 case isFalse=>simp at hm
 rename_i hc
 simp only [Zs] at hm
 subst hm
 have h0:=Qae (hr 0 (by simp));have h1:=Qae (hr 1 (by simp));have h2:=Qae (hr 2 (by simp))
 rw [Qn4 (show args.size=3 by simpa using hs),h0,h1,h2]
 exact Qgl Tryz.func183 (by kernel_rfl) (by kernel_rfl) (by kernel_rfl) (e:=add64Entry) (by kernel_rfl) (run_add64 x y c hc.1 hc.2.1 hc.2.2.1 hc.2.2.2 w) ⟨Qgr w,Qjo⟩
def z1.F (x y b:Int):Option (Int×Int):=if 0<=x/\0<=y/\y<18446744073709551616/\0<=b/\b<=1 then some ((x-y-b)%18446744073709551616,if x<y+b then 1 else 0) else none
def z1.enc (r:Int×Int):V:=.tup [.int .u64 r.1,.int .u64 r.2]
def z1.pack:List V->Option Pack
 |[.int .u64 x,.int .u64 y,.int .u64 c]=>some ⟨Int×Int,z1.F x y c,z1.enc⟩
 |_=>none
def Qj4:Array Value->Sem Value:=λargs=>do
 let (x,y,b) <-Extern.MathBitsCarry.three "Sub64" args
 pure (Extern.MathBitsCarry.pair ((x+Extern.MathBitsCarry.m64-y-b)%Extern.MathBitsCarry.m64) (if x<y+b then 1 else 0))
theorem Qu3 {P:Program} (x y b:Nat) (hb:b<=1) (w:World) :
  (Qj4 #[.int .u64 x,.int .u64 y,.int .u64 b]).run P w =
   .ok (.tuple #[.int .u64 (((x+18446744073709551616-y-b)%18446744073709551616:Nat):Int),.int .u64 ((if x<y+b then 1 else 0:Nat):Int)]) w:=by
 have:b=0\/b=1:=by omega
 rcases this with rfl|rfl<;>rfl
theorem z1.sound (vs:List V) (p:Pack) (h:z1.pack vs=some p):SoundC Tryz.prog 187 vs p:=by
 unfold z1.pack at h
 split at h
 case h_2=>simp at h
 rename_i x y b
 simp only [Zs] at h
 subst h
 intro O w args r hm hs hr hO
 simp only [z1.F] at hm
 split at hm
 case isFalse=>simp at hm
 rename_i hc
 obtain ⟨hx,hy,hy2,hb,hb1⟩:=hc
 simp only [Zs] at hm
 subst hm
 have h0:=Qae (hr 0 (by simp));have h1:=Qae (hr 1 (by simp));have h2:=Qae (hr 2 (by simp))
 rw [Qn4 (show args.size=3 by simpa using hs),h0,h1,h2]
 obtain ⟨x,rfl⟩:=Int.eq_ofNat_of_zero_le hx
 obtain ⟨y,rfl⟩:=Int.eq_ofNat_of_zero_le hy
 obtain ⟨b,rfl⟩:=Int.eq_ofNat_of_zero_le hb
 refine Qgl Tryz.func187 (by kernel_rfl) (by kernel_rfl) (by kernel_rfl) (e:=Qj4) (by kernel_rfl) (Qu3 x y b (by omega) w) ⟨Qgr w,?_⟩
 have e1:(((x+18446744073709551616-y-b)%18446744073709551616:Nat):Int)=((x:Int)-y-b)%18446744073709551616:=by omega
 have e2:((if x<y+b then 1 else 0:Nat):Int)=if (x:Int)<y+b then 1 else 0:=by
  by_cases hlt:x<y+b
  ·rw [if_pos hlt,if_pos (by omega)];rfl
  ·rw [if_neg hlt,if_neg (by omega)];rfl
 rw [e1,e2]
 exact Qjo
def Y7 (s:J1) (c:UInt8):Int:=
 match (List.range s.length).find? λi=>s.getD i 0 == c with
 |some i=>i
 |none=>-1
def z2.F (s:J1) (c:Int):Option Int:=some (Y7 s c.toNat.toUInt8)
def z2.enc (r:Int):V:=.int .i64 r
def z2.pack:List V->Option Pack
 |[.str s,.int .u8 c]=>some ⟨Int,z2.F s c,z2.enc⟩
 |_=>none
theorem Qvg {l:List Nat} {p q:Nat->Bool} (h:∀i∈l,p i=q i):l.find? p=l.find? q:=by
 induction l with
 |nil=>rfl
 |
  cons a l ih=>
  simp only [List.find?_cons]
  rw [h a (by simp),ih λi hi=>h i (by simp [hi])]
theorem Qwe (s:ByteArray) (c:UInt8):firstIdx s c=Y7 s.data.toList c:=by
 unfold firstIdx Y7
 have hz:s.size=s.data.toList.length:=by rw [Array.length_toList];rfl
 have e:((List.range s.data.toList.length).find? λi=>s[i]! == c)=(List.range s.data.toList.length).find? λi=>s.data.toList.getD i 0 == c:=Qvg λi hi=>by
  have hi':i<s.data.toList.length:=by simpa using hi
  have hs:i<s.size:=by rw [hz];exact hi'
  have:s[i]! = s.data.toList.getD i 0:=by
   rw [getElem!_pos s i hs]
   simp only [Zl,List.getElem?_eq_getElem hi',Option.getD_some]
   rfl
  rw [this]
 rw [hz,e]
 cases (List.range s.data.toList.length).find? λi=>s.data.toList.getD i 0 == c<;>rfl
theorem z2.sound (vs:List V) (p:Pack) (h:z2.pack vs=some p):SoundC Tryz.prog 290 vs p:=by
 unfold z2.pack at h
 split at h
 case h_2=>simp at h
 rename_i s c
 simp only [Zs] at h
 subst h
 intro O w args r hm hs hr hO
 simp only [z2.F,Zs] at hm
 subst hm
 obtain ⟨s',h0,rfl⟩:=Qde (hr 0 (by simp));have h1:=Qae (hr 1 (by simp))
 rw [Qhu (show args.size=2 by simpa using hs),h0,h1]
 refine Qgl Tryz.func290 (by kernel_rfl) (by kernel_rfl) (by kernel_rfl) (e:=Extern.BytealgIndexByte.indexByte) (by kernel_rfl) (run_indexByte_string s' c w) ⟨Qgr w,?_⟩
 rw [Qwe];exact .int _ _
def trimL (l cs:J1):J1:=l.dropWhile (cs.contains ·)
def Qf8 (l:J1):Bool:=l.all λc=>decide (c.toNat<128)
theorem Qoi {l:J1} (h:Qf8 l=true) (j:Nat) (b:UInt8) (hb:l[j]? = some b):b.toNat<128:=by
 have:=List.all_eq_true.1 h b (List.mem_of_getElem? hb)
 simpa using this
def z3.F (s cs:J1):Option J1:=if s.length<=9223372036854775807/\cs.length<4294967281/\Qf8 cs=true then some (Lib.trimS s cs) else none
def z3.enc (r:J1):V:=.str r
def z3.pack:List V->Option Pack
 |[.str s,.str c]=>some ⟨J1,z3.F s c,z3.enc⟩
 |_=>none
theorem Qm5 {P:Program} {g:FuncId} {f:Func} {args:Array Value} {w:World} {R:Value->World->Prop} (hf:P.funcs[g]? = some f) (hb:f.body.isNone=false) (hname:(f.name == "runtime.NumGoroutine")=false)
  (h:Calls P g args w λe w'=>∃cv,e=.returned cv/\R cv w'):CallR P g args w R:=by
 have h1:f.name≠"runtime.NumGoroutine":=by simpa using hname
 have h2:f.body.isSome=true:=by cases hh:f.body<;>simp [hh] at hb ⊢
 unfold CallR
 have:(callFunc g args).run P w=.ok (.enter g args) w:=by
  obtain ⟨c,hc⟩:=Option.isSome_iff_exists.1 h2
  simp [callFunc,go_sem,hf,h1,hc]
 rw [this]
 exact h.mono λe w' ⟨cv,he,hr⟩=>by subst he;exact hr
theorem z3.sound (vs:List V) (p:Pack) (h:z3.pack vs=some p):SoundC Tryz.prog 200 vs p:=by
 unfold z3.pack at h
 split at h
 case h_2=>simp at h
 rename_i s c
 simp only [Zs] at h
 subst h
 intro O w args r hm hs hr hO
 simp only [z3.F] at hm
 split at hm
 case isFalse=>simp at hm
 rename_i hc
 simp only [Zs] at hm
 subst hm
 obtain ⟨s',h0,rfl⟩:=Qde (hr 0 (by simp));obtain ⟨c',h1,rfl⟩:=Qde (hr 1 (by simp))
 rw [Qhu (show args.size=2 by simpa using hs),h0,h1]
 have hz:∀s:ByteArray,s.size=s.data.toList.length:=λs=>by rw [Array.length_toList];rfl
 refine Qm5 Tryz.func200 (by kernel_rfl) (by kernel_rfl) ?_
 exact (Any.strings_Trim_laid Tryz.lays160 (by kernel_rfl) s' c' w (by rw [hz];exact hc.1) (by rw [hz];exact hc.2.1) (λj b hb=>Qoi hc.2.2 j b hb)).mono λe w' ⟨he,hb⟩=>⟨_,he,Qpw hb,.str _ _ rfl⟩
def z4.F (s cs:J1):Option J1:=if cs.length<4294967281/\Qf8 cs=true then some (trimL s cs) else none
def z4.enc (r:J1):V:=.str r
def z4.pack:List V->Option Pack
 |[.str s,.str c]=>some ⟨J1,z4.F s c,z4.enc⟩
 |_=>none
theorem z4.sound (vs:List V) (p:Pack) (h:z4.pack vs=some p):SoundC Tryz.prog 201 vs p:=by
 unfold z4.pack at h
 split at h
 case h_2=>simp at h
 rename_i s c
 simp only [Zs] at h
 subst h
 intro O w args r hm hs hr hO
 simp only [z4.F] at hm
 split at hm
 case isFalse=>simp at hm
 rename_i hc
 simp only [Zs] at hm
 subst hm
 obtain ⟨s',h0,rfl⟩:=Qde (hr 0 (by simp));obtain ⟨c',h1,rfl⟩:=Qde (hr 1 (by simp))
 rw [Qhu (show args.size=2 by simpa using hs),h0,h1]
 have hz:∀s:ByteArray,s.size=s.data.toList.length:=λs=>by rw [Array.length_toList];rfl
 refine Qm5 Tryz.func201 (by kernel_rfl) (by kernel_rfl) ?_
 exact (Any.strings_TrimLeft_laid Tryz.lays161 (by kernel_rfl) s' c' w (by rw [hz];exact hc.1) (λj b hb=>Qoi hc.2 j b hb)).mono λe w' ⟨he,hb⟩=>⟨_,he,Qpw hb,.str _ _ rfl⟩
theorem Qxu:SoundP Tryz.prog 246 (copyP 274):=
 Qth (FunOK.enters ⟨Tryz.func246,rfl,by kernel_rfl⟩) Qvn Qud
end Go.Proofs.YtgjncgiekniniaaGreatDoor.A
end
section
namespace Go.Proofs.YtgjncgiekniniaaGreatDoor.A
open Go
def tab:Tab:=
 (.node 112 {d:=.int .i16,size:=1,bytes:=2,zero:=[(.int .i16 0)],flat:=[112]} (.node 65 {d:=.tuple,size:=1,bytes:=0,zero:=[.undef],flat:=[65]} (.node 24 {d:=.slice 81,size:=1,bytes:=24,zero:=[(.ints true .u32 [])],flat:=[24]} (.node 9 {d:=.str,size:=1,bytes:=16,zero:=[(.str ([]:J1))],flat:=[9]} (.node 3 {d:=.int .i64,size:=1,bytes:=8,zero:=[(.int .i64 0)],flat:=[3]} (.node 2 {d:=.int .i64,size:=1,bytes:=8,zero:=[(.int .i64 0)],flat:=[2]} (.node 0 {d:=.tuple,size:=1,bytes:=0,zero:=[.undef],flat:=[0]} .nil .nil) .nil) (.node 5 {d:=.int .u8,size:=1,bytes:=1,zero:=[(.int .u8 0)],flat:=[5]} (.node 4 {d:=.bool,size:=1,bytes:=1,zero:=[(.bool false)],flat:=[4]} .nil .nil) .nil)) (.node 22 {d:=.array 3 3,size:=3,bytes:=24,zero:=[(.int .i64 0),(.int .i64 0),(.int .i64 0)],flat:=[3,3,3]} (.node 21 {d:=.int .i32,size:=1,bytes:=4,zero:=[(.int .i32 0)],flat:=[21]} (.node 20 {d:=.iface,size:=1,bytes:=16,zero:=[.nili],flat:=[20]} .nil .nil) .nil) (.node 23 {d:=.slice 5,size:=1,bytes:=24,zero:=[(.ints true .u8 [])],flat:=[23]} .nil .nil))) (.node 39 {d:=.struct [(0,1,37),(1,1,4)],size:=2,bytes:=32,zero:=[(.ints true .u64 []),(.bool false)],flat:=[35,4]} (.node 32 {d:=.int .i64,size:=1,bytes:=8,zero:=[(.int .i64 0)],flat:=[32]} (.node 31 {d:=.slice 39,size:=1,bytes:=24,zero:=[(.recs true 2 [])],flat:=[31]} (.node 30 {d:=.slice 41,size:=1,bytes:=24,zero:=[(.recs true 3 [])],flat:=[30]} .nil .nil) .nil) (.node 37 {d:=.struct [(0,1,35)],size:=1,bytes:=24,zero:=[(.ints true .u64 [])],flat:=[35]} (.node 35 {d:=.slice 79,size:=1,bytes:=24,zero:=[(.ints true .u64 [])],flat:=[35]} .nil .nil) .nil)) (.node 47 {d:=.struct [(0,1,45),(1,1,4)],size:=2,bytes:=32,zero:=[(.ints true .i64 []),(.bool false)],flat:=[45,4]} (.node 45 {d:=.slice 3,size:=1,bytes:=24,zero:=[(.ints true .i64 [])],flat:=[45]} (.node 41 {d:=.struct [(0,1,3),(1,1,3),(2,1,3)],size:=3,bytes:=24,zero:=[(.int .i64 0),(.int .i64 0),(.int .i64 0)],flat:=[3,3,3],eq:=true} .nil .nil) .nil) (.node 63 {d:=.tuple,size:=1,bytes:=0,zero:=[.undef],flat:=[63]} .nil .nil)))) (.node 90 {d:=.slice 9,size:=1,bytes:=24,zero:=[(.strs true [])],flat:=[90]} (.node 79 {d:=.int .u64,size:=1,bytes:=8,zero:=[(.int .u64 0)],flat:=[79]} (.node 72 {d:=.struct [(0,2,47),(2,1,45)],size:=3,bytes:=56,zero:=[(.ints true .i64 []),(.bool false),(.ints true .i64 [])],flat:=[45,4,45]} (.node 69 {d:=.tuple,size:=1,bytes:=0,zero:=[.undef],flat:=[69]} (.node 68 {d:=.struct [(0,2,39),(2,1,37)],size:=3,bytes:=56,zero:=[(.ints true .u64 []),(.bool false),(.ints true .u64 [])],flat:=[35,4,35]} .nil .nil) .nil) (.node 78 {d:=.struct [(0,1,9),(1,1,9),(2,1,3),(3,1,3),(4,1,3),(5,3,41),(8,1,3),(9,1,3)],size:=10,bytes:=96,zero:=[(.str ([]:J1)),(.str ([]:J1)),(.int .i64 0),(.int .i64 0),(.int .i64 0),(.int .i64 0),(.int .i64 0),(.int .i64 0),(.int .i64 0),(.int .i64 0)],flat:=[9,9,3,3,3,3,3,3,3,3],eq:=true} (.node 73 {d:=.tuple,size:=1,bytes:=0,zero:=[.undef],flat:=[73]} .nil .nil) .nil)) (.node 83 {d:=.struct [(0,1,79),(1,1,80),(2,1,81),(3,1,5),(4,1,5),(5,1,5),(6,1,5),(7,1,5),(8,1,5),(9,3,22)],size:=12,bytes:=48,zero:=[(.int .u64 0),(.int .u16 0),(.int .u32 0),(.int .u8 0),(.int .u8 0),(.int .u8 0),(.int .u8 0),(.int .u8 0),(.int .u8 0),(.int .i64 0),(.int .i64 0),(.int .i64 0)],flat:=[79,80,81,5,5,5,5,5,5,3,3,3],eq:=true} (.node 81 {d:=.int .u32,size:=1,bytes:=4,zero:=[(.int .u32 0)],flat:=[81]} (.node 80 {d:=.int .u16,size:=1,bytes:=2,zero:=[(.int .u16 0)],flat:=[80]} .nil .nil) .nil) (.node 85 {d:=.struct [(0,10,78),(10,12,83),(22,1,5),(23,1,3)],size:=24,bytes:=160,zero:=[(.str ([]:J1)),(.str ([]:J1)),(.int .i64 0),(.int .i64 0),(.int .i64 0),(.int .i64 0),(.int .i64 0),(.int .i64 0),(.int .i64 0),(.int .i64 0),(.int .u64 0),(.int .u16 0),(.int .u32 0),(.int .u8 0),(.int .u8 0),(.int .u8 0),(.int .u8 0),(.int .u8 0),(.int .u8 0),(.int .i64 0),(.int .i64 0),(.int .i64 0),(.int .u8 0),(.int .i64 0)],flat:=[9,9,3,3,3,3,3,3,3,3,79,80,81,5,5,5,5,5,5,3,3,3,5,3],eq:=true} .nil .nil))) (.node 100 {d:=.tuple,size:=1,bytes:=0,zero:=[.undef],flat:=[100]} (.node 97 {d:=.tuple,size:=1,bytes:=0,zero:=[.undef],flat:=[97]} (.node 96 {d:=.slice 78,size:=1,bytes:=24,zero:=[(.recs true 10 [])],flat:=[96]} (.node 91 {d:=.tuple,size:=1,bytes:=0,zero:=[.undef],flat:=[91]} .nil .nil) .nil) (.node 99 {d:=.slice 109,size:=1,bytes:=24,zero:=[(.recs true 6 [])],flat:=[99]} .nil .nil)) (.node 108 {d:=.struct [(0,3,41),(3,3,41)],size:=6,bytes:=48,zero:=[(.int .i64 0),(.int .i64 0),(.int .i64 0),(.int .i64 0),(.int .i64 0),(.int .i64 0)],flat:=[3,3,3,3,3,3],eq:=true} (.node 105 {d:=.slice 108,size:=1,bytes:=24,zero:=[(.recs true 6 [])],flat:=[105]} (.node 102 {d:=.tuple,size:=1,bytes:=0,zero:=[.undef],flat:=[102]} .nil .nil) .nil) (.node 109 {d:=.struct [(0,3,41),(3,3,41)],size:=6,bytes:=48,zero:=[(.int .i64 0),(.int .i64 0),(.int .i64 0),(.int .i64 0),(.int .i64 0),(.int .i64 0)],flat:=[3,3,3,3,3,3],eq:=true} .nil .nil))))) (.node 206 {d:=.tuple,size:=1,bytes:=0,zero:=[.undef],flat:=[206]} (.node 149 {d:=.slice 125,size:=1,bytes:=24,zero:=[(.recs true 1 [])],flat:=[149]} (.node 125 {d:=.slice 130,size:=1,bytes:=24,zero:=[(.recs true 8 [])],flat:=[125]} (.node 117 {d:=.tuple,size:=1,bytes:=0,zero:=[.undef],flat:=[117]} (.node 115 {d:=.tuple,size:=1,bytes:=0,zero:=[.undef],flat:=[115]} (.node 113 {d:=.tuple,size:=1,bytes:=0,zero:=[.undef],flat:=[113]} .nil .nil) .nil) (.node 124 {d:=.struct [(0,3,22),(3,1,23),(4,1,24),(5,1,122)],size:=6,bytes:=96,zero:=[(.int .i64 0),(.int .i64 0),(.int .i64 0),(.ints true .u8 []),(.ints true .u32 []),(.ints true .u16 [])],flat:=[3,3,3,23,24,122]} (.node 122 {d:=.slice 80,size:=1,bytes:=24,zero:=[(.ints true .u16 [])],flat:=[122]} .nil .nil) .nil)) (.node 132 {d:=.tuple,size:=1,bytes:=0,zero:=[.undef],flat:=[132]} (.node 130 {d:=.struct [(0,3,41),(3,3,41),(6,1,9),(7,1,9)],size:=8,bytes:=80,zero:=[(.int .i64 0),(.int .i64 0),(.int .i64 0),(.int .i64 0),(.int .i64 0),(.int .i64 0),(.str ([]:J1)),(.str ([]:J1))],flat:=[3,3,3,3,3,3,9,9],eq:=true} (.node 127 {d:=.tuple,size:=1,bytes:=0,zero:=[.undef],flat:=[127]} .nil .nil) .nil) (.node 148 {d:=.struct [(0,1,3),(1,1,3),(2,3,41),(5,1,112),(6,1,5)],size:=7,bytes:=48,zero:=[(.int .i64 0),(.int .i64 0),(.int .i64 0),(.int .i64 0),(.int .i64 0),(.int .i16 0),(.int .u8 0)],flat:=[3,3,3,3,3,112,5],eq:=true} .nil .nil))) (.node 163 {d:=.slice 166,size:=1,bytes:=24,zero:=[(.recs true 8 [])],flat:=[163]} (.node 157 {d:=.struct [(0,12,83),(12,1,2),(13,3,41),(16,3,41)],size:=19,bytes:=104,zero:=[(.int .u64 0),(.int .u16 0),(.int .u32 0),(.int .u8 0),(.int .u8 0),(.int .u8 0),(.int .u8 0),(.int .u8 0),(.int .u8 0),(.int .i64 0),(.int .i64 0),(.int .i64 0),(.int .i64 0),(.int .i64 0),(.int .i64 0),(.int .i64 0),(.int .i64 0),(.int .i64 0),(.int .i64 0)],flat:=[79,80,81,5,5,5,5,5,5,3,3,3,2,3,3,3,3,3,3],eq:=true} (.node 153 {d:=.tuple,size:=1,bytes:=0,zero:=[.undef],flat:=[153]} (.node 152 {d:=.array 2 5,size:=2,bytes:=2,zero:=[(.int .u8 0),(.int .u8 0)],flat:=[5,5]} .nil .nil) .nil) (.node 160 {d:=.func,size:=1,bytes:=8,zero:=[.nilf],flat:=[160]} (.node 158 {d:=.int .u64,size:=1,bytes:=8,zero:=[(.int .u64 0)],flat:=[158]} .nil .nil) .nil)) (.node 185 {d:=.tuple,size:=1,bytes:=0,zero:=[.undef],flat:=[185]} (.node 168 {d:=.tuple,size:=1,bytes:=0,zero:=[.undef],flat:=[168]} (.node 166 {d:=.struct [(0,3,41),(3,1,9),(4,1,9),(5,1,9),(6,1,9),(7,1,9)],size:=8,bytes:=104,zero:=[(.int .i64 0),(.int .i64 0),(.int .i64 0),(.str ([]:J1)),(.str ([]:J1)),(.str ([]:J1)),(.str ([]:J1)),(.str ([]:J1))],flat:=[3,3,3,9,9,9,9,9],eq:=true} .nil .nil) .nil) (.node 205 {d:=.struct [(0,2,39),(2,1,3)],size:=3,bytes:=40,zero:=[(.ints true .u64 []),(.bool false),(.int .i64 0)],flat:=[35,4,3]} .nil .nil)))) (.node 276 {d:=.iface,size:=1,bytes:=16,zero:=[.nili],flat:=[276]} (.node 245 {d:=.tuple,size:=1,bytes:=0,zero:=[.undef],flat:=[245]} (.node 234 {d:=.int .i64,size:=1,bytes:=8,zero:=[(.int .i64 0)],flat:=[234]} (.node 214 {d:=.tuple,size:=1,bytes:=0,zero:=[.undef],flat:=[214]} (.node 213 {d:=.struct [(0,2,47),(2,1,3)],size:=3,bytes:=40,zero:=[(.ints true .i64 []),(.bool false),(.int .i64 0)],flat:=[45,4,3]} .nil .nil) .nil) (.node 243 {d:=.tuple,size:=1,bytes:=0,zero:=[.undef],flat:=[243]} (.node 241 {d:=.tuple,size:=1,bytes:=0,zero:=[.undef],flat:=[241]} .nil .nil) .nil)) (.node 272 {d:=.ptr 274,size:=1,bytes:=8,zero:=[.nilp],flat:=[272]} (.node 265 {d:=.tuple,size:=1,bytes:=0,zero:=[.undef],flat:=[265]} (.node 249 {d:=.int .i64,size:=1,bytes:=8,zero:=[(.int .i64 0)],flat:=[249]} .nil .nil) .nil) (.node 274 {d:=.struct [(0,1,272),(1,1,23)],size:=2,bytes:=32,zero:=[.nilp,(.ints true .u8 [])],flat:=[272,23]} .nil .nil))) (.node 302 {d:=.tuple,size:=1,bytes:=0,zero:=[.undef],flat:=[302]} (.node 295 {d:=.ptr 130,size:=1,bytes:=8,zero:=[.nilp],flat:=[295]} (.node 288 {d:=.tuple,size:=1,bytes:=0,zero:=[.undef],flat:=[288]} (.node 277 {d:=.tuple,size:=1,bytes:=0,zero:=[.undef],flat:=[277]} .nil .nil) .nil) (.node 299 {d:=.tuple,size:=1,bytes:=0,zero:=[.undef],flat:=[299]} .nil .nil)) (.node 322 {d:=.ptr 5,size:=1,bytes:=8,zero:=[.nilp],flat:=[322]} (.node 321 {d:=.array 20 5,size:=20,bytes:=20,zero:=[(.int .u8 0),(.int .u8 0),(.int .u8 0),(.int .u8 0),(.int .u8 0),(.int .u8 0),(.int .u8 0),(.int .u8 0),(.int .u8 0),(.int .u8 0),(.int .u8 0),(.int .u8 0),(.int .u8 0),(.int .u8 0),(.int .u8 0),(.int .u8 0),(.int .u8 0),(.int .u8 0),(.int .u8 0),(.int .u8 0)],flat:=[5,5,5,5,5,5,5,5,5,5,5,5,5,5,5,5,5,5,5,5]} (.node 304 {d:=.tuple,size:=1,bytes:=0,zero:=[.undef],flat:=[304]} .nil .nil) .nil) (.node 331 {d:=.array 12 3,size:=12,bytes:=96,zero:=[(.int .i64 0),(.int .i64 0),(.int .i64 0),(.int .i64 0),(.int .i64 0),(.int .i64 0),(.int .i64 0),(.int .i64 0),(.int .i64 0),(.int .i64 0),(.int .i64 0),(.int .i64 0)],flat:=[3,3,3,3,3,3,3,3,3,3,3,3]} .nil .nil))))))
end Go.Proofs.YtgjncgiekniniaaGreatDoor.A
end
