/- Part 1 of the proof of ScriptMany.card. -/
import Derived.Test.YtjfipepaaddlmaaGreatDoorCv0
import Derived.Lib.UnsafeStr
import Derived.LoopN
import Derived.WalkSpells
import Derived.Shelf.Strings.SlTrimAscii
import Derived.Shelf.Strings.Repeat
import Derived.Shelf.Strings.OnBuilder
import Derived.Test.YtjfipepaaddlmaaGreatDoorProg
import Derived.Shelf.RegionOpenPlain
import Derived.Lib.Strings
import Derived.Lib.Walk
import Derived.Lib.Builder
import Derived.WalkKit
import Derived.Laws.Externs
set_option linter.unusedVariables false
set_option linter.unusedSimpArgs false
section
namespace Go.Proofs.YtjfipepaaddlmaaGreatDoor.A
open Go Go.RowKit
section
variable {P:Program} {C:Ctx} (hC:Q8 P C) {a:Act} {M:Mem} {S:Store} {env:Env} {v:V} {S':Store} {next:Act->World->Prop} {Q:Exit->Act->World->Prop} {I:Inl (V×Store)}
theorem Qp4 {l c:Operand} (h:Qe0 l c=true) {k:IntKind} {n:Int} (he:a.eval l=.int k n):∃kc,a.eval c=.int kc n:=by
 unfold Qe0 at h
 split at h
 ·simp only [decide_eq_true_eq] at h
  subst h;exact ⟨k,he⟩
 ·rename_i k1 x1 k2 x2
  have:x1=x2:=by simpa using h
  subst this
  have e1':Value.int k1 x1=.int k n:=he
  cases e1'
  exact ⟨k2,rfl⟩
 ·simp at h
theorem Ji {v':V} {S' S:Store} {v:V} {k:Blk} (h:K0 v' (S++[k])=some (v,S')):S.length<S'.length:=by
 simp only [K0,Zs,Z3] at h
 obtain ⟨_,rfl⟩:=h
 simp
include hC in
theorem Qut (o:Oper) (hM:M.ok) (hq:S.length<S'.length->M.μ S.length=none) (hρ:∀ty x,x∈o.op.operands->Rep M (a.eval x) (C.opv env ty x)) (hA:∀ty x,x∈o.op.operands->isMv o.op=false->∀id∈refs1 (C.opv env ty x),M.S id=S.getD id .dead)
  (hcall:∀c,o.op≠.call c) (h:C.evOp I true o env S K0=some (v,S')) (hn:Next C o a M S env v S' next):o.wp P a M.w next Q:=by
 have hT:=hC.tab
 obtain ⟨dst,op,type,pos,after,guard⟩:=o
 by_cases hmv:isMv op=true
 ·cases op<;>simp only [isMv,Z16] at hmv
  case move x=>exact Qs hM hn (by simp only [execOp,Sem.run_pure]) (by simpa only [Ctx.evOp] using h) (hρ _ x (by simp [Op.operands]))
 replace hA:=λty x hx=>hA ty x hx (by simpa using hmv)
 cases op<;>simp only [Ctx.evOp] at h<;>try (simp at h;done)
 case call c=>exact (hcall c rfl).elim
 case move x=>exact (hmv rfl).elim
 case assign x=>
  split at h
  ·rename_i hnil
   have hx:a.eval x=.slice none 0 0:=by
    cases x<;>simp only [isNilConst] at hnil<;>try (simp at hnil;done)
    split at hnil
    ·rename_i e;cases e;rfl
    ·simp at hnil
   split at h
   ·simp at h
   ·rename_i hu
    have hf:flatV (unexact (C.emptyOf type))=some (0,[]):=by
     revert hu
     unfold Ctx.emptyOf
     split
     ·split
      ·intro _;rfl
      ·intro _;rfl
      ·intro hu;exact (hu rfl).elim
      ·split
       ·intro hu;exact (hu rfl).elim
       ·rename_i hz;intro _;simp [unexact,flatV];omega
     ·intro hu;exact (hu rfl).elim
    have hq:=hq (Ji h)
    obtain ⟨hr,hp⟩:=Qiv hM hq hf (e:=C.elemT type)
    refine Wt hn (cv:=.slice none 0 0) (M':=M.push S.length (.arr 0 true (C.elemT type) (unexact (C.emptyOf type))) (.nil none) M.w) (by simp only [execOp,Sem.run_pure,hx];rfl) h hr hp (by simp [opW,hnil])
  ·exact Qs hM hn (by simp only [execOp,Sem.run_pure]) h (hρ _ x (by simp [Op.operands]))
 case pick c x y=>
  have hc:=hρ 0 c (by simp [Op.operands]);have hx:=hρ type x (by simp [Op.operands]);have hy:=hρ type y (by simp [Op.operands])
  split at h
  case h_2=>simp at h
  rename_i b hb
  rw [hb] at hc
  have hc':=Jc hc
  have hrun:(execOp a.eval ⟨dst,.pick c x y,type,pos,after,guard⟩).run P M.w=.ok (.value (if b then a.eval x else a.eval y)) M.w:=by
   simp only [execOp,hc',asBool,Sem.run_bind,Sem.run_pure,Result.andThen_ok]
  split at h
  ·rename_i p q hp hq'
   rw [hp] at hx;rw [hq'] at hy
   refine Qs hM hn hrun h ?_
   cases b
   ·simpa using hy
   ·simpa using hx
  ·cases b
   ·exact Qs hM hn hrun h (by simpa using hy)
   ·exact Qs hM hn hrun h (by simpa using hx)
 case alloc e=>
  split at h
  case h_2=>simp at h
  rename_i k hk
  have hq:=hq (Ji h)
  obtain ⟨cur,cap,hrun,hb⟩:=Qtd hT hM hq hk
  have hdst:∀b o cap',Loc.blk M.w.heap.size 0 cap=.blk b o cap'->M.w.heap.size<=b/\b<(M.w.alloc (.cells cur e)).heap.size:=λb o cap' he=>by cases he;simp
  exact Wt hn (M':=M.push S.length k (.blk M.w.heap.size 0 cap) (M.w.alloc (.cells cur e))) (by simp only [execOp,Sem.run_bind,hrun,Result.andThen_ok,Sem.run_pure];rfl) h Qfu (post_push hM hq (Qaz _ _) hdst hb) (by simp [opW])
 case box e x=>
  have hx:=hρ e x (by simp [Op.operands])
  split at h
  case isFalse=>simp at h
  rename_i hc
  have hq:=hq (Ji h)
  obtain ⟨hrun,hr⟩:=Qpq (P:=P) (e:=e) hx hc.1
  have hdst:∀b o cap',Loc.blk M.w.heap.size 0 0=.blk b o cap'->M.w.heap.size<=b/\b<(M.w.alloc (.cells (a.eval x).cells e)).heap.size:=λb o cap' he=>by cases he;simp
  exact Wt hn (M':=M.push S.length (.cells e (cellsOf (C.opv env e x))) (.blk M.w.heap.size 0 0) (M.w.alloc (.cells (a.eval x).cells e))) (by simp only [execOp,Sem.run_bind,hrun,Result.andThen_ok,Sem.run_pure];rfl) h Qfu
   (post_push hM hq (Qaz _ _) hdst (Qi6 hM hq hr 0)) (by simp [opW])
 case build t parts=>
  split at h
  case h_2=>simp at h
  rename_i w hw
  obtain ⟨cv,hrun,hr⟩:=Qtb (M:=M) hT (qs:=parts.map λ(i,x)=>(i,a.eval x)) hw (by simp) (λj hj hj'=>by
   have hjp:j<parts.toList.length:=by simpa using hj
   have hm:(parts.toList[j]).2∈(Op.build t parts).operands:=by
    simp only [Op.operands,List.mem_toArray]
    exact List.mem_map_of_mem (Z10 hjp)
   refine ⟨by simp,?_⟩
   have:=hρ (C.partType t (parts.toList[j]).1) _ hm
   simpa using this)
  exact Qs hM hn (by simp only [execOp,Sem.run_bind,hrun,Result.andThen_ok,Sem.run_pure]) h hr
 case buildSlice t len parts=>
  split at h
  case isFalse=>simp at h
  split at h
  case h_2=>simp at h
  rename_i hnr w hw
  obtain ⟨cv,w',hrun,hg,hr,hown⟩:=Qgd (M:=M) hT hM (qs:=parts.map λ(i,x)=>(i,a.eval x)) hw (by simp) (λj hj hj'=>by
   have hjp:j<parts.toList.length:=by simpa using hj
   have hm:(parts.toList[j]).2∈(Op.buildSlice t len parts).operands:=by
    simp only [Op.operands,List.mem_toArray]
    exact List.mem_map_of_mem (Z10 hjp)
   refine ⟨by simp,?_⟩
   have:=hρ (C.partType t (parts.toList[j]).1) _ hm
   simpa using this)
  cases ho:C.ownD dst with
  |
   false=>
   rw [ho] at h
   exact Wt hn (M':={M with w:=w'}) (by simp only [execOp,Sem.run_bind,hrun,Result.andThen_ok,Sem.run_pure]) h (.imm hr) (post_world hM S hg) (by simp)
  |
   true=>
   rw [ho] at h
   simp only [Zd] at h
   have hq:=hq (Ji h)
   obtain ⟨cap,rfl,hl,hlt,hb⟩:=hown _ hq
   have hdst:∀b o cap',Loc.blk M.w.heap.size 0 cap=.blk b o cap'->M.w.heap.size<=b/\b<w'.heap.size:=λb o cap' he=>by cases he;exact ⟨Z5 _,hlt⟩
   exact Wt hn (M':=M.push S.length (.arr 0 false (C.elemT t) (unexact w)) (.blk M.w.heap.size 0 cap) w') (by simp only [execOp,Sem.run_bind,hrun,Result.andThen_ok,Sem.run_pure];rfl) h
    (Yv hl) (post_push hM hq hg hdst hb) (by simp [opW,ho])
 case load t x=>
  obtain ⟨cv,v',hrun,hK,hr⟩:=Qlm hT hM (hA 0 x (by simp [Op.operands])) h (hρ 0 x (by simp [Op.operands]))
  exact Qs hM hn (by simp only [execOp,Sem.run_bind,hrun,Result.andThen_ok,Sem.run_pure]) hK hr
 case store t x y=>
  obtain ⟨M',S'',hrun,hK,hp⟩:=Qpn hT hM (hA 0 x (by simp [Op.operands])) h (hρ 0 x (by simp [Op.operands])) (hρ t y (by simp [Op.operands]))
  simp only [K0,Zs,Z3] at hK
  obtain ⟨rfl,rfl⟩:=hK
  exact Quq (by simp only [execOp,Sem.run_bind,hrun,Result.andThen_ok,Sem.run_pure]) (hn Go.undef M' _ (.imm (.tup #[] [] rfl (λj hj=>by simp at hj))) hp (by simp [opW]))
 case nilCheck x=>
  have hx:=hρ 0 x (by simp [Op.operands]);have hS:=hA 0 x (by simp [Op.operands])
  split at h
  ·rename_i id off he
   rw [he] at hx hS
   split at h
   case isFalse=>simp at h
   rename_i hl
   obtain ⟨ad,e1,_⟩:=Qlw hS hl hx
   exact Qs hM hn (cv:=.pointer (some ad)) (by simp only [execOp,e1,Sem.run_pure]) h (by rw [e1] at hx;exact hx)
  ·rename_i id ver i off he
   rw [he] at hx hS
   split at h
   case isFalse=>simp at h
   rename_i hl
   obtain ⟨ad,e1,_⟩:=Qmt hS hl hx
   exact Qs hM hn (cv:=.pointer (some ad)) (by simp only [execOp,e1,Sem.run_pure]) h (by rw [e1] at hx;exact hx)
  ·rename_i cs he
   rw [he] at hx
   obtain ⟨ad,e1,_⟩:=Ql8 hx
   exact Qs hM hn (cv:=.pointer (some ad)) (by simp only [execOp,e1,Sem.run_pure]) h (by rw [e1] at hx;exact hx)
  ·rename_i f cs he
   rw [he] at hx
   obtain ⟨cvs,e1,_⟩:=Jd hx
   exact Qs hM hn (cv:=.func (.func f) #[] cvs) (by simp only [execOp,e1,Sem.run_pure]) h (by rw [e1] at hx;exact hx)
  ·simp at h
 case binOp op t x y z=>
  obtain ⟨cv,v',hrun,hK,hr⟩:=Qpt hT x y (hA t x (by simp [Op.operands])) h (hρ t x (by simp [Op.operands])) (hρ t y (by simp [Op.operands]))
  simp only [Sem.run_bind] at hrun
  exact Qs hM hn (by simp only [execOp,Sem.run_bind,hrun,Result.andThen_ok,Sem.run_pure]) hK hr
 case unOp op t x=>
  have hx:=hρ 0 x (by simp [Op.operands])
  split at h
  ·rename_i k n he
   rw [he] at hx
   have e1:=Qr hx
   exact Qs hM hn (by simp only [execOp,e1,Op.unary,Op.intArith,Sem.run_bind,Sem.run_pure,Result.andThen_ok];rfl) h (.imm (.int _ _))
  ·rename_i b he
   rw [he] at hx
   have e1:=Jc hx
   exact Qs hM hn (by simp only [execOp,e1,Op.unary,Sem.run_bind,Sem.run_pure,Result.andThen_ok]) h (.imm (.bool _))
  ·simp at h
 case convert src dst' x=>
  have hx:=hρ src x (by simp [Op.operands]);have hS:=hA src x (by simp [Op.operands])
  unfold Ctx.convertV at h
  split at h
  ·rename_i k' k kx n h1 h2 he
   rw [he] at hx
   have e1:=Qr hx
   exact Qs hM hn (by simp only [execOp,e1,Sem.run_bind,Qu8 hT h1 h2,Result.andThen_ok,Sem.run_pure];rfl) h (.imm (.int _ _))
  ·rename_i s h1 h2 he
   rw [he] at hx
   obtain ⟨s',e1,e2⟩:=Wz hx
   exact Qs hM hn (by simp only [execOp,e1,Sem.run_bind,Qok hT h1 h2,Result.andThen_ok,Sem.run_pure]) h (.imm (.str _ _ e2))
  ·rename_i k' kx n h1 h2 he
   rw [he] at hx
   have e1:=Qr hx
   exact Qs hM hn (by simp only [execOp,e1,Sem.run_bind,Qpg hT h1 h2,Result.andThen_ok,Sem.run_pure]) h (.imm (.str _ _ rfl))
  ·rename_i e s h1 h2 he
   rw [he] at hx
   obtain ⟨s',e1,rfl⟩:=Wz hx
   split at h
   case h_2=>simp at h
   rename_i h3
   split at h
   case isFalse=>simp at h
   rename_i hl
   have hz:s'.size=s'.data.toList.length:=by rw [Z26];rfl
   have hq:=hq (Ji h)
   obtain ⟨cap,w',hrun,hg,hlt,hb⟩:=Qpi (M:=M) hT hM hq h1 h2 h3 (s:=s') (by omega)
   have hdst:∀b o cap',Loc.blk M.w.heap.size 0 cap=.blk b o cap'->M.w.heap.size<=b/\b<w'.heap.size:=λb o cap' he=>by cases he;exact ⟨Z5 _,hlt⟩
   exact Wt hn (M':=M.push S.length (.arr 0 false e (.ints true .u8 (s'.data.toList.map λc=>(c.toNat:Int)))) (.blk M.w.heap.size 0 cap) w') (by simp only [execOp,e1,Sem.run_bind,hrun,Result.andThen_ok,Sem.run_pure];rfl) h
    (Yv (by simp only [lenV,Z29,hz])) (post_push hM hq hg hdst hb) (by simp [opW,h2])
  ·rename_i e id ver h1 h2 he
   rw [he] at hx hS
   split at h
   case h_2=>simp at h
   rename_i ver' e' l h3 hk
   split at h
   case isFalse=>simp at h
   rename_i hc
   obtain ⟨rfl,rfl⟩:=hc
   have hk':=(hS id (by simp [refs1])).trans hk
   obtain ⟨cv,loc,w',hrun,hr,hW,hb⟩:=Qvc hT hM h1 h2 h3 hk' hx
   exact Wt hn (M':=M.push id (.arr ver' false e' (.ints true .u8 l)) loc w') (by simp only [execOp,Sem.run_bind,hrun,Result.andThen_ok,Sem.run_pure];rfl) h hr (post_write hM hW hb (Wm hk (by simp))) (by simp [opW,h2,he,refs1])
  ·rename_i e _ h1 h2
   split at h
   case h_2=>simp at h
   rename_i y l h3 h4
   have hcont:=Yu hM hS hx (by rw [h4];rfl)
   rw [h4] at hcont
   obtain ⟨s,hrun,hs⟩:=Qo8 hT h1 h3 h2 hcont
   exact Qs hM hn (by simp only [execOp,Sem.run_bind,hrun,Result.andThen_ok,Sem.run_pure]) h (.imm (.str _ _ hs))
  ·simp at h
 case makeFunc fn first captured=>
  split at h
  case h_2=>simp at h
  rename_i f
  split at h
  case isFalse=>simp at h
  rename_i h0
  have hf:first = #[]:=by simpa using h0
  subst hf
  refine Qs hM hn (cv:=.func (.func f) #[] (captured.map a.eval)) (by simp [execOp,Instr.makeFunc]) h (.func _ _ _ (by simp) (λj hj=>?_))
  have hj':j<captured.size:=by simpa using hj
  have:=hρ 0 captured[j] (by simp [Op.operands])
  simpa [Z0,hj'] using this
 case makeInterface t x=>
  split at h
  case h_2=>simp at h
  rename_i fs hd
  split at h
  case isFalse=>simp at h
  rename_i hc
  obtain ⟨fs',hu,_⟩:=Qdp hT hd
  exact Qs hM hn (cv:=.iface t (a.eval x)) (by simp [execOp,Instr.makeInterface,run_underlying hu]) h (.iface _ _ _ (Qaa (hρ t x (by simp [Op.operands])) hc))
 case makeSlice t l c=>
  split at h
  case isFalse=>simp at h
  rename_i hlc
  split at h
  case h_2=>simp at h
  rename_i k n he
  have hl:=hρ 0 l (by simp [Op.operands])
  rw [he] at hl
  have e1:=Qr hl
  have e2:=Qp4 hlc e1
  obtain ⟨kc,e2⟩:=e2
  unfold Ctx.makeSliceV at h
  split at h
  case h_2=>simp at h
  rename_i e hd
  split at h
  case isTrue=>simp at h
  rename_i hb0
  split at h
  case isFalse=>simp at h
  rename_i hc
  obtain ⟨h0,hby⟩:=hc
  split at h
  case h_2=>simp at h
  rename_i cc hz
  have hq:=hq (Ji h)
  obtain ⟨cur,hrun,hb⟩:=Qt2 hT hM hq hd (k:=k) (kc:=kc) h0 hby hb0 hz
  have hdst:∀b o cap',Loc.blk M.w.heap.size 0 n.toNat=.blk b o cap'->M.w.heap.size<=b/\b<(M.w.alloc (.cells cur e)).heap.size:=λb o cap' he=>by cases he;simp
  exact Wt hn (M':=M.push S.length (.arr 0 false e cc) (.blk M.w.heap.size 0 n.toNat) (M.w.alloc (.cells cur e))) (by simp only [execOp,e1,e2,Sem.run_bind,hrun,Result.andThen_ok,Sem.run_pure];rfl) h
   (Yv (Qf0 hT hz).2.1) (post_push hM hq (Qaz _ _) hdst hb) (by simp [opW])
 case slice t x lo hi mx=>
  have hx:=λty=>hρ ty x (by simp [Op.operands]);have hS:=λty=>hA ty x (by simp [Op.operands])
  have hopt:∀(o:Option Operand),(∀y,o=some y->y∈(Op.slice t x lo hi mx).operands)->(∀v,o.map (C.opv env 0)=some v->∃c,o.map a.eval=some c/\Rep M c v)/\(o.map (C.opv env 0)=none->o.map a.eval=none):=λo ho=>by
   cases o with
   |none=>exact ⟨λv hv=>by simp at hv,λ_=>rfl⟩
   |some y=>exact ⟨λv hv=>by
     simp only [Option.map_some,Zs] at hv;subst hv
     exact ⟨_,rfl,hρ 0 y (ho y rfl)⟩,λhv=>by simp at hv⟩
  have hlo:=hopt lo (λy hy=>by subst hy;simp [Op.operands])
  have hhi:=hopt hi (λy hy=>by subst hy;simp [Op.operands])
  have hmx:=hopt mx (λy hy=>by subst hy;simp [Op.operands])
  split at h
  ·split at h
   case isFalse=>simp at h
   rename_i hnone
   have hm:mx=none:=by simpa using hnone
   subst hm
   obtain ⟨cv,v',hrun,hK,hr⟩:=Qvp hT hM (hS 0) h (hx 0) hlo.1 hlo.2 hhi.1 hhi.2
   exact Qs hM hn (by simp only [execOp,Sem.run_bind,Option.map_none,hrun,Result.andThen_ok,Sem.run_pure]) hK hr
  ·obtain ⟨cv,v',hrun,hK,hr⟩:=Qun hT hM (hS t) h (hx t) hlo.1 hlo.2 hhi.1 hhi.2 hmx.1 hmx.2
   exact Qs hM hn (by simp only [execOp,Sem.run_bind,hrun,Result.andThen_ok,Sem.run_pure]) hK hr
 case fieldAddr t x f=>
  have hx:=hρ 0 x (by simp [Op.operands]);have hS:=hA 0 x (by simp [Op.operands])
  split at h
  case h_2=>simp at h
  rename_i fs hd
  split at h
  case h_2=>simp at h
  rename_i off size hf
  split at h
  ·simp at h
  rename_i hz
  split at h
  ·rename_i id o he
   rw [he] at hx hS
   split at h
   case isFalse=>simp at h
   rename_i hl
   obtain ⟨ad,e1,hr⟩:=Qlw hS hl hx
   exact Qs hM hn (by simp only [execOp,e1,Sem.run_bind,Qgg hT hd hf hz,Result.andThen_ok,Sem.run_pure]) h (hr off)
  ·rename_i cs he
   rw [he] at hx
   obtain ⟨ad,e1,hr⟩:=Ql8 hx
   exact Qs hM hn (by simp only [execOp,e1,Sem.run_bind,Qgg hT hd hf hz,Result.andThen_ok,Sem.run_pure]) h (hr off)
  ·rename_i id ver i o he
   rw [he] at hx hS
   split at h
   case isFalse=>simp at h
   rename_i hl
   obtain ⟨ad,e1,hr⟩:=Qmt hS hl hx
   exact Qs hM hn (by simp only [execOp,e1,Sem.run_bind,Qgg hT hd hf hz,Result.andThen_ok,Sem.run_pure]) h (hr off)
  ·simp at h
 case field t x f=>
  have hx:=hρ t x (by simp [Op.operands])
  split at h
  case h_2=>simp at h
  rename_i fs hd
  split at h
  case h_2=>simp at h
  rename_i off size cs hf he
  rw [he] at hx
  split at h
  case isFalse=>simp at h
  rename_i hc
  obtain ⟨cv,hrun,hr⟩:=Qvd hT hd hf hc.1 hc.2 hx
  exact Qs hM hn (by simp only [execOp,Sem.run_bind,hrun,Result.andThen_ok,Sem.run_pure]) h hr
 case indexAddr t x ix=>
  obtain ⟨cv,v',hrun,hK,hr⟩:=Qud hT hM (hA t x (by simp [Op.operands])) h (hρ t x (by simp [Op.operands])) (hρ 0 ix (by simp [Op.operands]))
  exact Qs hM hn (by simp only [execOp,Sem.run_bind,hrun,Result.andThen_ok,Sem.run_pure]) hK hr
 case index t x ix=>
  obtain ⟨cv,v',hrun,hK,hr⟩:=Qsw (K:=λv=>K0 v S) hT h (hρ t x (by simp [Op.operands])) (hρ 0 ix (by simp [Op.operands]))
  exact Qs hM hn (by simp only [execOp,Sem.run_bind,hrun,Result.andThen_ok,Sem.run_pure]) hK hr
 case range t x=>
  have hx:=hρ t x (by simp [Op.operands])
  split at h
  case h_2=>simp at h
  rename_i s hd he
  rw [he] at hx
  obtain ⟨s',e1,rfl⟩:=Wz hx
  have hq:=hq (Ji h)
  obtain ⟨M',hrun,hr,hp⟩:=Qo7 (P:=P) hT hM hq hd (s:=s')
  exact Wt hn (by simp only [execOp,e1,Sem.run_bind,hrun,Result.andThen_ok,Sem.run_pure]) h hr hp (by simp [opW])
 case next it b=>
  cases b<;>simp only [Ctx.evOp] at h<;>try (simp at h;done)
  have hx:=hρ 0 it (by simp [Op.operands]);have hS:=hA 0 it (by simp [Op.operands])
  split at h
  case h_2=>simp at h
  rename_i id he
  have hW:opW C ⟨dst,.next it true,type,pos,after,guard⟩ env S=[id]:=by simp [opW,he,refs1]
  rw [he] at hx hS
  split at h
  case h_2=>simp at h
  rename_i s p hk
  have hr:=Qq8 (P:=P) hM (hS id (by simp [refs1])) hk hx (ty:=type)
  split at h
  ·rename_i hlt
   rw [if_pos hlt] at hr
   obtain ⟨cv,M',hrun,hr,hp⟩:=hr
   exact Wt hn (by simp only [execOp,Sem.run_bind,hrun,Result.andThen_ok,Sem.run_pure]) h hr hp (by rw [hW];simp)
  ·rename_i hlt
   rw [if_neg hlt] at hr
   obtain ⟨cv,hrun,hr⟩:=hr
   exact Qs hM hn (by simp only [execOp,Sem.run_bind,hrun,Result.andThen_ok,Sem.run_pure]) h hr
 case extract x i=>
  have hx:=hρ 0 x (by simp [Op.operands])
  split at h
  case h_2=>simp at h
  rename_i vs he
  rw [he] at hx
  split at h
  case h_2=>simp at h
  rename_i w hw
  obtain ⟨cvs,e1,hl,hr⟩:=Qbr hx
  have hi:i<vs.length:=by
   by_cases hi:i<vs.length
   ·exact hi
   ·rw [Z9 (by omega)] at hw;simp at hw
  have hi':i<cvs.size:=by omega
  have hr':=hr i hi
  rw [Z1 hi] at hw;simp only [Zs] at hw
  rw [hw] at hr'
  exact Qs hM hn (cv:=cvs.getD i Go.undef) (by simp [execOp,e1,Instr.extract,hi',Z0]) h hr'
end
variable {R:Type}
abbrev Bd (f:Option (V×Store)) (K:V->Store->Option R):Option R:=f.bind λp=>K p.1 p.2
theorem Qfi (C:Ctx) (t:Nat) (S:Store) (x y:V) (K:V->Store->Option R):C.appendV t S x y K=Bd (C.appendV t S x y K0) K:=by
 unfold Ctx.appendV
 repeat' split
 all_goals first|rfl|(cases isNil x<;>cases isCons x<;>rfl)
theorem Qvm (C:Ctx) (t:Nat) (S:Store) (x y:V) (K:V->Store->Option R):C.appendK t S x y K=Bd (C.appendK t S x y K0) K:=by
 unfold Ctx.appendK
 repeat' split
 all_goals rfl
theorem Qug (C:Ctx) (t:Nat) (S:Store) (x y:V) (K:V->Store->Option R):C.appendX t S x y K=Bd (C.appendX t S x y K0) K:=by
 unfold Ctx.appendX
 cases isExact x<;>simp only [Zd,Zc]<;>(repeat' split)
 all_goals rfl
theorem Qt1 (C:Ctx) (t:Nat) (S:Store) (x y:V) (K:V->Store->Option R):C.copyV t S x y K=Bd (C.copyV t S x y K0) K:=by
 unfold Ctx.copyV
 repeat' split
 all_goals rfl
section
variable {P:Program} {C:Ctx} (hC:Q8 P C) {a:Act} {M:Mem} {S:Store} {env:Env} {v:V} {S':Store} {next:Act->World->Prop} {Q:Exit->Act->World->Prop} {I:Inl (V×Store)}
def argV (C:Ctx) (env:Env) (c:Call):List V:=c.args.toList.zipIdx.map λp=>C.opv env (c.argTypes.getD p.2 0) p.1
theorem Wl {c:Call}:(argV C env c).length=c.args.size:=by simp [argV]
theorem Qet {c:Call} {j:Nat} (h:j<(argV C env c).length):(argV C env c)[j]=C.opv env (c.argTypes.getD j 0) (c.args[j]'(by rw [Wl] at h;exact h)):=by
 simp [argV]
theorem Qac {c:Call} (hρ:∀ty x,x∈c.operands->Rep M (a.eval x) (C.opv env ty x)):∀j (h:j<(argV C env c).length),Rep M ((c.args.map a.eval).getD j Go.undef) (argV C env c)[j]:=by
 intro j h
 have h':j<c.args.size:=by simpa [argV] using h
 rw [Qet h]
 have:=hρ (c.argTypes.getD j 0) c.args[j] (by simp [Call.operands])
 simpa [Z0,h'] using this
theorem Qi0 {c:Call} (hρ:∀ty x,x∈c.operands->Rep M (a.eval x) (C.opv env ty x)) (hA:∀ty x,x∈c.operands->∀id∈refs1 (C.opv env ty x),M.S id=S.getD id .dead) {x:V} (hargs:argV C env c=[x]) :
  ∃cx,c.args.map a.eval = #[cx]/\Rep M cx x/\(∀id∈refs1 x,M.S id=S.getD id .dead):=by
 have h1:c.args.size=1:=by rw [<-Wl (C:=C) (env:=env),hargs];rfl
 refine ⟨(c.args.map a.eval).getD 0 Go.undef,?_,?_,?_⟩
 ·apply Array.ext
  ·simp [h1]
  ·intro i hi hi'
   have:i=0:=by simp at hi';exact hi'
   subst this
   simp [Z0,h1]
 ·have:=Qac hρ 0 (by rw [hargs];simp)
  simpa only [hargs,Z41] using this
 ·have:=Qet (C:=C) (env:=env) (c:=c) (j:=0) (by rw [hargs];simp)
  simp only [hargs,Z41] at this
  rw [this];exact hA _ _ (by simp [Call.operands])
theorem Qh8 {c:Call} (hρ:∀ty x,x∈c.operands->Rep M (a.eval x) (C.opv env ty x)) (hA:∀ty x,x∈c.operands->∀id∈refs1 (C.opv env ty x),M.S id=S.getD id .dead) {x y:V} (hargs:argV C env c=[x,y]) :
  ∃cx cy,c.args.map a.eval = #[cx,cy]/\Rep M cx x/\Rep M cy y/\(∀id∈refs1 x,M.S id=S.getD id .dead)/\(∀id∈refs1 y,M.S id=S.getD id .dead):=by
 have h1:c.args.size=2:=by rw [<-Wl (C:=C) (env:=env),hargs];rfl
 refine ⟨(c.args.map a.eval).getD 0 Go.undef,(c.args.map a.eval).getD 1 Go.undef,?_,?_,?_,?_,?_⟩
 ·apply Array.ext
  ·simp [h1]
  ·intro i hi hi'
   have:i=0\/i=1:=by simp at hi';omega
   rcases this with rfl|rfl<;>simp [Z0,h1]
 ·have:=Qac hρ 0 (by rw [hargs];simp)
  simpa only [hargs,Z41] using this
 ·have:=Qac hρ 1 (by rw [hargs];simp)
  simpa only [hargs,List.getElem_cons_succ,Z41] using this
 ·have:=Qet (C:=C) (env:=env) (c:=c) (j:=0) (by rw [hargs];simp)
  simp only [hargs,Z41] at this
  rw [this];exact hA _ _ (by simp [Call.operands])
 ·have:=Qet (C:=C) (env:=env) (c:=c) (j:=1) (by rw [hargs];simp)
  simp only [hargs,List.getElem_cons_succ,Z41] at this
  rw [this];exact hA _ _ (by simp [Call.operands])
theorem Qdv {o:Oper} {c:Call} (hop:o.op=.call c) {f:Operand} (hcal:c.callee=.value f) {g:FuncId} {cvs:Array Value} (hf:a.eval f=.func (.func g) #[] cvs) {R:Value->World->Prop}
  (h:CallR P g (c.args.map a.eval++cvs) M.w R) (hn:∀cv w',R cv w'->next (a.put o.dst cv) w'):o.wp P a M.w next Q:=by
 have hrun:(execOp a.eval o).run P M.w=(callFunc g (c.args.map a.eval++cvs)).run P M.w:=by
  simp [execOp,hop,resolve,hcal,hf,Deferred.ofValue,invoke]
 unfold Oper.wp
 rw [hrun]
 unfold CallR at h
 split at h
 ·rename_i e;rw [e];exact hn _ _ h
 ·rename_i e;rw [e]
  exact h.mono λe w' he=>by cases e<;>first|exact hn _ _ he|exact he.elim
 ·exact h.elim
theorem Qtf {o:Oper} {c:Call} (hop:o.op=.call c) {f:Operand} {m:String} (hcal:c.callee=.invoke f m) {t:TypeId} {g:FuncId} {cv0:Value} (hf:a.eval f=.iface t cv0) (hm:MethOK P t m g) {R:Value->World->Prop}
  (h:CallR P g (#[cv0]++c.args.map a.eval) M.w R) (hn:∀cv w',R cv w'->next (a.put o.dst cv) w'):o.wp P a M.w next Q:=by
 have hex:(#[Value.iface t cv0]++c.args.map a.eval).extract 1 (#[Value.iface t cv0]++c.args.map a.eval).size=c.args.map a.eval:=by
  apply Array.ext
  ·simp
  ·intro i h1 h2
   rw [Array.getElem_extract,Array.getElem_append_right (by simp)]
   simp
 have hrun:(execOp a.eval o).run P M.w=(callFunc g (#[cv0]++c.args.map a.eval)).run P M.w:=by
  have h0:(#[Value.iface t cv0]++c.args.map a.eval)[0]? = some (.iface t cv0):=by rw [Z44 (by simp)];rfl
  have hmm:=hm cv0 M.w
  simp only [execOp,hop,resolve,hcal,hf,Sem.run_bind,Sem.run_pure,Result.andThen_ok,invoke,h0,hex,callMethod,run_program,hmm]
 unfold Oper.wp
 rw [hrun]
 unfold CallR at h
 split at h
 ·rename_i e;rw [e];exact hn _ _ h
 ·rename_i e;rw [e]
  exact h.mono λe w' he=>by cases e<;>first|exact hn _ _ he|exact he.elim
 ·exact h.elim
theorem Qtc (w:World) (b n:Nat):w.grownBy (w.freeze ⟨b,0,none⟩ n) (some b):=by
 unfold World.freeze
 split
 ·exact ⟨rfl,rfl,rfl,Z5 _,λ_ _ _=>rfl⟩
 ·exact ⟨rfl,rfl,rfl,by simp,λk hk hne=>by
   simp only [Z81]
   rw [if_neg (λe=>hne (by rw [e]))]⟩
theorem Qfm (x:V):refs1 (Y3 x)=refs1 x:=by cases x<;>rfl
theorem Qir {M:Mem} {cx:Value} (h:Rep M cx .nilsl):cx=.slice none 0 0:=by
 cases h with
 |imm h=>cases h<;>first|rfl|(simp_all [flatV];done)
 |ref h=>exact h.2.elim
theorem Qj7 {M:Mem} {cx:Value} {x:V} (h:Rep M cx x):Rep M cx (Y3 x):=by
 cases x<;>try exact h
 rw [Qir h]
 exact .imm (.slice none 0 0 (.ints true .u8 []) [] (λ_=>Go.undef) rfl (λ_=>rfl) (Z5 _) (λ_=>rfl) (λj hj=>absurd hj (by simp)) (λj hj=>absurd hj (by simp)) (λj hj=>absurd hj (by simp)))
theorem Qqc (hM:M.ok) {id ver:Nat} {g:Bool} {e:Nat} {c:V} (hk:M.S id=.arr ver g e c) {n0:Nat} (hl0:lenV c=some n0) (hc:0<n0) {cx:Value} (hx:Rep M cx (.sref id ver)) (ts:Array TypeId) (ty:TypeId) :
  ∃cv,(Builtin.unsafeSliceData_ ts ty #[cx]).run P M.w=.ok cv M.w/\Rep M cv (.eptr id ver 0 0):=by
 obtain ⟨_,⟨hsm,hle⟩,hp⟩:=W8 hx
 have hcc:contentB (M.S id) ver=some c:=by rw [hk];simp [contentB]
 obtain ⟨loc,n,hμ,hn,rfl⟩:=hp c hcc
 have hB:=hM.blk id _ hμ
 rw [hk] at hB
 obtain ⟨_,hB⟩:=hB
 have hn0:0<n:=by
  rw [hl0] at hn;simp only [Zs] at hn;omega
 cases loc with
 |
  nil a=>
  have h9:=(Qk hB.2).2
  rw [hn] at h9;simp at h9;omega
 |
  blk b o cap=>
  obtain ⟨n2,fl,_,_,hf,rfl,hle2,_⟩:=hB
  have h9:=(Qk hf).2
  rw [hn] at h9;simp at h9
  refine ⟨_,Lib.run_unsafeSliceData_row M.w ts ty ⟨b,0,none⟩ n cap (by omega),.ref ⟨rfl,⟨hsm,hle⟩,λc' hc'=>⟨b,0,cap,hμ,?_⟩⟩⟩
  simp
theorem Qn8 (hT:C.T.check P=true) (hM:M.ok) {id ver t e:Nat} (hd:(C.ty t).d=.ptr e) (hb:C.bad e=false) (hs:(C.ty e).size=1) {x:Bool} {l:J0} (hk:M.S id=.arr ver true e (.ints x .u8 l)) (hl:0<l.length) (hby:l.all Yw=true)
  {cx:Value} (hx:Rep M cx (.eptr id ver 0 0)) (it:TypeId) (ty:TypeId) :
  ∃loc s w',(Builtin.unsafeString_ #[t,it] ty #[cx,.int .i64 l.length]).run P M.w=.ok (.string s) w'/\s.data.toList=(l.map λn=>UInt8.ofNat n.toNat)/\Wi M id loc loc .dead w':=by
 obtain ⟨_,_,hp⟩:=Qcb hx
 have hcc:contentB (M.S id) ver=some (.ints x .u8 l):=by rw [hk];simp [contentB]
 obtain ⟨b,o,cap,hμ,rfl⟩:=hp _ hcc
 have hB:=hM.blk id _ hμ
 rw [hk] at hB
 obtain ⟨hB0,n,fl,cur,fz,hf,rfl,hle,hmx,hh,hcz,hfz,_,_,hcell⟩:=hB
 obtain rfl:=hfz rfl
 simp only [flatV,Zs,Z3] at hf
 obtain ⟨rfl,rfl⟩:=hf
 have hu:=J6 hT hd
 have hce:P.cellsOf e=1:=by
  obtain ⟨j,d,hj,_,hs',_⟩:=Wp hT (Wf hb)
  simp [Program.cellsOf,hj,hs',hs]
 have hsh:M.w.shape? b=some (e,cur.size):=by simp [World.shape?,hh]
 simp only [zOf,Nat.mul_one] at hcz
 have hget:∀j (h:j<l.length),cur[j]? = some (.int .u8 l[j]):=λj hj=>by
  obtain ⟨h1,h2⟩:=hcell j (by simpa using hj)
  rw [Z18] at h1
  have:=Qr (M:=M) (.imm h1)
  have hjc:j<cur.size:=by omega
  simp only [Z0,Z24 hjc,Z45] at this
  rw [Z24 hjc,this]
 have hbyte:∀j (h:j<l.length),((UInt8.ofNat (l[j]).toNat).toNat:Int)=l[j]:=λj hj=>by
  have:=Z14.1 hby l[j] (Z10 hj)
  simp only [Yw,Z4,decide_eq_true_eq] at this
  simp only [UInt8.toNat_ofNat']
  omega
 have hlen:(l.map λn=>UInt8.ofNat n.toNat).length=l.length:=by simp
 have hrun:=Lib.run_unsafeString_row (P:=P) M.w t it ty e hu hce b cur.size hsh (l.map λn=>UInt8.ofNat n.toNat) (by intro h;rw [h] at hlen;simp at hlen;omega) (by rw [hlen];omega) (by rw [hlen];unfold maxLen at hmx;omega) (λj y hj=>by
  have hjl:j<l.length:=by
   rcases Z56 j l.length with h|h
   ·exact h
   ·rw [Z9 (by simpa using h)] at hj;simp at hj
  rw [Addr.add_lit,Z25]
  have h3:(l.map λn=>UInt8.ofNat n.toNat)[j]? = some (UInt8.ofNat (l[j]).toNat):=by simp [Z1 hjl]
  rw [h3] at hj;simp only [Zs] at hj;subst hj
  rw [hbyte j hjl]
  simp [World.cell?,hh,hget j hjl])
 rw [hlen] at hrun
 refine ⟨.blk b 0 cap,_,_,(by simpa using hrun),by simp,?_⟩
 have hg:=Qtc M.w b l.length
 exact {
     μ:=hμ,own:=by rw [hk];rfl,w:=hg,dst:=λb' o' cap' e=>by cases e;exact ⟨Z12 (hB0 _ _ _ rfl).2 hg.size,.inr ⟨_,_,rfl⟩⟩,
     fix:=λh=>by simp [Blk.fix] at h,refs:=λ_ _ _ h=>by simp [contentB] at h,ver:=λ_ _ v h=>by simp [verB] at h}
include hC in
theorem Qrg (o:Oper) {c:Call} (hop:o.op=.call c) (hM:M.ok) (hq:S.length<S'.length->M.μ S.length=none) (hρ:∀ty x,x∈o.op.operands->Rep M (a.eval x) (C.opv env ty x)) (hA:∀ty x,x∈o.op.operands->∀id∈refs1 (C.opv env ty x),M.S id=S.getD id .dead)
  (hinl:isInl C o env=false) (h:C.evOp I true o env S K0=some (v,S')) (hn:Next C o a M S env v S' next):o.wp P a M.w next Q:=by
 have hT:=hC.tab
 have hρ':∀ty x,x∈c.operands->Rep M (a.eval x) (C.opv env ty x):=λty x hx=>hρ ty x (by rw [hop];exact hx)
 have hA':∀ty x,x∈c.operands->∀id∈refs1 (C.opv env ty x),M.S id=S.getD id .dead:=λty x hx=>hA ty x (by rw [hop];exact hx)
 unfold Ctx.evOp at h
 simp only [hop] at h
 cases hcal:c.callee with
 |
  value f=>
  simp only [hcal] at h
  have hf:=hρ' 0 f (by simp [Call.operands,hcal])
  unfold Ctx.callV at h
  split at h
  case h_2=>simp at h
  rename_i g caps he
  have hng:C.inPl g=none:=by
   simp only [isInl,hop,hcal,he] at hinl
   simpa using hinl
  simp only [hng] at h
  rw [he] at hf
  obtain ⟨cvs,e1,hcl,hcr⟩:=Jd hf
  cases hclone:C.clone g with
  |
   some e=>
   simp only [hclone] at h
   split at h
   case h_2=>simp at h
   rename_i x hargs
   split at h
   case isFalse=>simp at h
   rename_i hcont
   change argV C env c=[x] at hargs
   obtain ⟨cx,e2,hx,hS⟩:=Qi0 hρ' hA' hargs
   have hcv:cvs = #[]:=by simpa using hcl
   subst hcv
   have hq':=hq (Ji h)
   have hs:=hC.clone g e hng hclone M S.length _ _ _ hM hq' (Yu hM hS hx hcont) hcont
   rw [<-e2,<-Array.append_empty (xs:=c.args.map a.eval)] at hs
   have hlen:(C.clone g).isSome=true:=by rw [hclone];rfl
   have hW:opW C o env S=[S.length]:=by simp [opW,hop,hcal,he,hclone]
   simp only [K0,Zs,Z3] at h
   obtain ⟨rfl,rfl⟩:=h
   refine Qdv hop hcal e1 hs λcv w' ⟨loc,n,hn',hcv,hg,hdst,hb⟩=>?_
   subst hcv
   have hlv:lenV (unexact (immOf S x))=some n:=by
    rw [<-hn'];cases immOf S x<;>rfl
   exact hn _ (M.push S.length (.arr 0 true e (unexact (immOf S x))) loc w') [S.length] (Yv hlv (by cases loc<;>rfl)) (post_push hM hq' hg hdst (hb (push_step hM hq' hg hdst))) (by rw [hW];simp)
  |
   none=>
   simp only [hclone] at h
   split at h
   case h_2=>simp at h
   rename_i p hp
   split at h
   case isFalse=>simp at h
   rename_i hc
   simp only [Zn,Z89,Z4] at hc
   obtain ⟨hnr,himm⟩:=hc
   have hnr':(argV C env c++caps).all noRef=true:=hnr
   change C.call g ((argV C env c++caps).map (immDeep S))=some p at hp
   change ((argV C env c++caps).map (immDeep S)).all immV=true at himm
   change (p.m.bind λr=>K0 (p.enc r) (Wa S (argV C env c++caps)))=some (v,S') at h
   rw [Qms hnr'] at hp himm
   rw [Qfx hnr'] at h
   simp only [Z7] at h
   obtain ⟨r,hr,hK⟩:=h
   simp only [K0,Zs,Z3] at hK
   obtain ⟨rfl,rfl⟩:=hK
   have hall:∀j (hj:j<(argV C env c++caps).length),Rep M ((c.args.map a.eval++cvs).getD j Go.undef) (argV C env c++caps)[j]:=by
    intro j hj
    by_cases h1:j<(argV C env c).length
    ·rw [Z33 h1]
     have:=Qac hρ' j h1
     rw [Wl] at h1
     simpa [Z0,Z44 (show j<(c.args.map a.eval).size by simpa using h1)] using this
    ·rw [Z37 (by omega)]
     have:=hcr (j-(argV C env c).length) (by simp at hj;omega)
     rw [Wl] at h1
     have e2:(c.args.map a.eval++cvs).getD j Go.undef=cvs.getD (j-(argV C env c).length) Go.undef:=by
      rw [Wl]
      simp only [Z0]
      rw [Array.getElem?_append_right (by simpa using h1)];simp
     rw [e2];exact this
   have hs:=hC.call g _ p hng hclone hp M.O M.w (c.args.map a.eval++cvs) r hr (by simp [Wl,hcl]) (λj hj=>Qaa (hall j hj) (Z14.1 himm _ (Z10 hj))) hM.low
   exact Qdv hop hcal e1 hs λcv w' ⟨hg,hr0⟩=>hn cv {M with w:=w'} [] (.imm hr0) (post_world hM S hg) (by simp)
 |
  invoke r m=>
  simp only [hcal] at h
  have hr:=hρ' 0 r (by simp [Call.operands,hcal])
  unfold Ctx.invokeV at h
  split at h
  case h_2=>simp at h
  rename_i t v0 he
  rw [he] at hr
  obtain ⟨cv0,e1,hr0⟩:=Qqz hr
  rw [show (List.map (λp=>C.opv env (c.argTypes.getD p.snd 0) p.fst) c.args.toList.zipIdx)=argV C env c from rfl] at h
  cases hm:C.meth t m with
  |none=>simp [hm] at h
  |some g=>
  simp only [hm] at h
  cases hng:C.inPl g with
  |some _=>simp [hng] at h
  |none=>
  simp only [hng] at h
  cases hclone:C.clone g with
  |some _=>simp [hclone] at h
  |none=>
  simp only [hclone] at h
  cases hp:C.call g (v0::argV C env c) with
  |none=>simp [hp] at h
  |some p=>
  simp only [hp] at h
  split at h
  case isFalse=>simp at h
  rename_i himm
  simp only [Z7] at h
  obtain ⟨r0,hr0',hK⟩:=h
  simp only [K0,Zs,Z3] at hK
  obtain ⟨rfl,rfl⟩:=hK
  have hs:=hC.call g _ p hng hclone hp M.O M.w (#[cv0]++c.args.map a.eval) r0 hr0' (by simp [Wl];omega) (λj hj=>by
   cases j with
   |zero=>simpa [Z0,Array.getElem?_append] using hr0
   |
    succ j=>
    have hj':j<(argV C env c).length:=by simpa using hj
    have:=Qaa (Qac hρ' j hj') (by
     have:=Z14.1 himm _ (List.mem_cons_of_mem _ (Z10 hj'))
     exact this)
    simpa [Z0,Array.getElem?_append_right (show (#[cv0]:Array Value).size<=j+1 by simp)] using this) hM.low
  exact Qtf hop hcal e1 (hC.meth t m g hm) hs λcv w' ⟨hg,hr0⟩=>hn cv {M with w:=w'} [] (.imm hr0) (post_world hM S hg) (by simp)
 |
  builtin b=>
  simp only [hcal] at h
  have hrun:∃cs,(execOp a.eval o).run P M.w=(builtin b c.argTypes o.type cs (c.args.map a.eval)).run P M.w:=by
   simp only [execOp,hop,resolve,hcal,invoke,Sem.run_bind,Sem.run_pure,Result.andThen_ok]
   exact ⟨_,rfl⟩
  obtain ⟨cs,hrun⟩:=hrun
  rw [show (List.map (λp=>C.opv env (c.argTypes.getD p.snd 0) p.fst) c.args.toList.zipIdx)=argV C env c from rfl] at h
  have two:=λ{x y:V} (h:argV C env c=[x,y])=>Qh8 hρ' hA' h
  have onev:=λ{x:V} (h:argV C env c=[x])=>Qi0 hρ' hA' h
  have htypes:∀{l:List TypeId},c.argTypes.toList=l->c.argTypes=l.toArray:=λ{l} hl=>by rw [<-hl]
  split at h
  ·rename_i t x ht hargs
   obtain ⟨cx,e1,hx,hS⟩:=onev hargs
   have ht':=htypes ht
   split at h
   ·rename_i s hd
    obtain ⟨s',rfl,rfl⟩:=Wz hx
    refine Qs hM hn ?_ h (.imm (.int _ _))
    rw [hrun,e1,ht']
    have:=run_len_string (P:=P) M.w t o.type s' (W4 hT hd)
    have hsz:s'.size=s'.data.toList.length:=by rw [Z26];rfl
    simp only [builtin,Sem.run_bind,this,Result.andThen_ok,Sem.run_pure,goInt,hsz]
   ·rename_i e hd
    split at h
    case h_2=>simp at h
    rename_i n hl
    obtain ⟨A,cap,rfl⟩:=Qiz hM (by rw [Qfm];exact hS) hl (Qj7 hx)
    refine Qs hM hn ?_ h (.imm (.int _ _))
    rw [hrun,e1,ht']
    have hu:=(Wg hT hd).1
    have hel:P.elem t=e:=by simp [Program.elem,hu]
    have:=run_len_slice (P:=P) M.w t o.type A n cap (by rw [hel];exact hu)
    simp only [builtin,Sem.run_bind,this,Result.andThen_ok,Sem.run_pure,goInt]
   ·simp at h
  ·rename_i t u x y ht hargs
   by_cases hkd:C.keepD o.dst=true
   ·simp only [hkd,Zd] at h
    split at h
    case h_2=>simp at h
    rename_i e hd
    split at h
    ·simp at h
    obtain ⟨cx,cy,e1,hx,hy,hSx,hSy⟩:=two hargs
    have ht':=htypes ht
    obtain ⟨cv,v',M',hrun',hK,hr,hp⟩:=Qsu hT hM hSy h hx hy (Wg hT hd).1 (ty:=o.type)
    refine Wt hn ?_ hK hr hp (by simp)
    rw [hrun,e1,ht']
    simp only [builtin,Sem.run_bind,hrun',Result.andThen_ok,Sem.run_pure]
   have hkd:C.keepD o.dst=false:=by simpa using hkd
   simp only [hkd,Zc] at h
   obtain ⟨cx,cy,e1,hx,hy,hSx,hSy⟩:=two hargs
   have ht':=htypes ht
   have hx:=Qj7 hx
   have hrx:=Qfm x
   rw [<-hrx] at hSx
   have hrun2:∃cv v' M' S'' wr,(Builtin.append_ #[t,u] o.type #[cx,cy]).run P M.w=.ok cv M'.w/\K0 v' S''=some (v,S')/\Rep M' cv v'/\Post M M' S S'' wr/\wr ⊆ refs1 (Y3 x)++[S.length]:=by
    split at h
    ·rename_i e hd
     by_cases hlen:S.length<S'.length
     ·exact Qfa hT hM (λ_=>hq hlen) hSx hSy h hx hy (Wg hT hd).1 (ty:=o.type)
     ·have h':C.appendV t S (Y3 x) y (λu s=>if s.length<=S.length then some (u,s) else none)=some (v,S'):=by
       rw [Qfi,h];simp only [Bd,Zb];rw [if_pos (by omega)]
      obtain ⟨cv,v',M',S'',wr,a1,a2,a3,a4,a5⟩:=Qfa hT hM (λ⟨u,s,r',hlt,hr'⟩=>by rw [if_neg (by omega)] at hr';simp at hr') hSx hSy h' hx hy (Wg hT hd).1 (ty:=o.type)
      refine ⟨cv,v',M',S'',wr,a1,?_,a3,a4,a5⟩
      split at a2
      ·exact a2
      ·simp at a2
    ·rename_i hd
     split at h
     case h_2=>simp at h
     rename_i s
     by_cases hlen:S.length<S'.length
     ·exact Qji hT hM (λ_=>hq hlen) hSx h hx hy (W4 hT hd) (ty:=o.type)
     ·have h':C.appendV t S (Y3 x) (Qcv s) (λu s=>if s.length<=S.length then some (u,s) else none)=some (v,S'):=by
       rw [Qfi,h];simp only [Bd,Zb];rw [if_pos (by omega)]
      obtain ⟨cv,v',M',S'',wr,a1,a2,a3,a4,a5⟩:=Qji hT hM (λ⟨u,s,r',hlt,hr'⟩=>by rw [if_neg (by omega)] at hr';simp at hr') hSx h' hx hy (W4 hT hd) (ty:=o.type)
      refine ⟨cv,v',M',S'',wr,a1,?_,a3,a4,a5⟩
      split at a2
      ·exact a2
      ·simp at a2
    ·simp at h
   obtain ⟨cv,v',M',S'',wr,hrun',hK,hr,hp,hw⟩:=hrun2
   refine Wt hn ?_ hK hr hp (λi hi=>?_)
   ·rw [hrun,e1,ht']
    simp only [builtin,Sem.run_bind,hrun',Result.andThen_ok,Sem.run_pure]
   ·have hW:opW C o env S=(argV C env c).flatMap refs1++[S.length]:=by simp [opW,hop,hcal,argV]
    rw [hW,hargs]
    have:=hw hi
    rw [hrx] at this
    simp only [Z32,Z83] at this ⊢
    rcases this with h1|h1
    ·exact .inl (.inl h1)
    ·exact .inr h1
  ·rename_i x y hargs
   obtain ⟨cx,cy,e1,hx,hy,_,_⟩:=two hargs
   unfold maxV at h
   split at h
   case h_2=>simp at h
   obtain rfl:=Qr hx;obtain rfl:=Qr hy
   refine Qs hM hn ?_ h (.imm (.int _ _))
   rw [hrun,e1]
   simp only [builtin,Sem.run_bind,run_max_int2,Result.andThen_ok,Sem.run_pure]
  ·rename_i x y hargs
   obtain ⟨cx,cy,e1,hx,hy,_,_⟩:=two hargs
   unfold minV at h
   split at h
   case h_2=>simp at h
   obtain rfl:=Qr hx;obtain rfl:=Qr hy
   refine Qs hM hn ?_ h (.imm (.int _ _))
   rw [hrun,e1]
   simp only [builtin,Sem.run_bind,run_min_int2,Result.andThen_ok,Sem.run_pure]
  ·rename_i t u x y ht hargs
   obtain ⟨cx,cy,e1,hx,hy,hSx,hSy⟩:=two hargs
   have ht':=htypes ht
   obtain ⟨k,M',S'',hrun',hK,hp⟩:=Qqf hT hM (tx:=u) (ty:=o.type) hSx hSy h hx hy
   refine Wt hn ?_ hK (.imm (.int _ _)) hp (λi hi=>?_)
   ·rw [hrun,e1,ht']
    simp only [builtin,Sem.run_bind,hrun',Result.andThen_ok,Sem.run_pure]
   ·have hW:opW C o env S=(argV C env c).flatMap refs1:=by simp [opW,hop,hcal,argV]
    rw [hW,hargs]
    simp only [Z83,Z32]
    exact .inl hi
  ·rename_i t x ht hargs
   obtain ⟨cx,e1,hx,hS⟩:=onev hargs
   split at h
   case h_3=>simp at h
   case h_2=>
    obtain rfl:=Qir hx
    refine Qs hM hn ?_ h (.imm .nilp)
    rw [hrun,e1]
    simp only [builtin,Sem.run_bind,Lib.run_unsafeSliceData_nil,Result.andThen_ok,Sem.run_pure]
   rename_i bid ver
   split at h
   case h_2=>simp at h
   rename_i ver' g e cont hk
   split at h
   case isFalse=>simp at h
   rename_i hc
   subst hc
   split at h
   case h_2=>simp at h
   rename_i n0 hl0
   split at h
   case isFalse=>simp at h
   rename_i hc
   obtain ⟨cv,hrun',hr⟩:=Qqc (P:=P) hM ((hS bid (by simp [refs1])).trans hk) hl0 hc hx c.argTypes o.type
   refine Qs hM hn ?_ h hr
   rw [hrun,e1]
   simp only [builtin,Sem.run_bind,hrun',Result.andThen_ok,Sem.run_pure]
  ·rename_i t u x y ht hargs
   obtain ⟨cx,cy,e1,hx,hy,hSx,hSy⟩:=two hargs
   clear hSy
   have ht':=htypes ht
   split at h
   case h_3=>simp at h
   case h_2=>
    rename_i n
    split at h
    case isFalse=>simp at h
    rename_i hn0
    subst hn0
    obtain rfl:=Qbh hx
    obtain rfl:=Qr hy
    refine Qs hM hn ?_ h (.imm (.str ByteArray.empty [] rfl))
    rw [hrun,e1,ht']
    simp only [builtin,Sem.run_bind,Lib.run_unsafeString_none,Result.andThen_ok,Sem.run_pure]
   rename_i bid ver n
   split at h
   case h_2=>simp at h
   rename_i e ver' e' xx l hd hk
   split at h
   case isFalse=>simp at h
   rename_i hc
   obtain ⟨rfl,rfl,hb,hs⟩:=hc
   split at h
   case isFalse=>simp at h
   rename_i hc
   obtain ⟨rfl,hl,hby⟩:=hc
   obtain rfl:=Qr hy
   obtain ⟨loc,s,w',hrun',hsd,hW⟩:=Qn8 hT hM hd hb hs ((hSx bid (by simp [refs1])).trans hk) hl hby hx u o.type
   have hlt:=Wm hk (by simp)
   have hW0:opW C o env S=(argV C env c).flatMap refs1:=by simp [opW,hop,hcal,argV]
   refine Wt hn ?_ h (.imm (.str _ _ hsd)) (post_write hM hW trivial hlt) (by rw [hW0,hargs];simp [refs1])
   rw [hrun,e1,ht']
   simp only [builtin,Sem.run_bind,hrun',Result.andThen_ok,Sem.run_pure,Mem.push]
  ·simp at h
end
variable {R:Type}
theorem Qa2 (C:Ctx) (t:Nat) (v:V) (K:V->Option R):C.cast t v K=(C.cast t v some).bind K:=by
 unfold Ctx.cast V.asInt V.asBool V.asStr V.asInts V.asStrs V.asRecs
 repeat' split
 all_goals first|rfl|simp
theorem Qa0 (C:Ctx):∀(ts:List Nat) (vs:List V) (i:Nat) {R:Type} (K:List V->Option R),C.castAll ts vs i K=(C.castAll ts vs i some).bind K
 |[],vs,i,R,K=>rfl
 |
  t::ts,vs,i,R,K=>by
  simp only [Ctx.castAll]
  rw [Qa2,Qa2 C t _ (λv=>C.castAll ts vs (i+1) λr=>some (v::r))]
  cases C.cast t (vs.getD i .undef) some with
  |none=>rfl
  |
   some v=>
   simp only [Zb]
   rw [Qa0 C ts vs (i+1) (λr=>K (v::r)),Qa0 C ts vs (i+1) (λr=>some (v::r))]
   cases C.castAll ts vs (i+1) some<;>rfl
theorem Qaw (C:Ctx) (t:Nat) (S:Store) (x:V) (K:V->Option R):C.loadV t S x K=(C.loadV t S x some).bind K:=by
 unfold Ctx.loadV
 repeat' split
 all_goals first|rfl|skip
 ·rw [Qa0,Qa0 C _ _ _ (λcs=>some (V.agg cs))]
  cases C.castAll _ _ _ some<;>rfl
 ·exact Qa2 C _ _ _
theorem Qhc (C:Ctx) (t:Nat) (S:Store) (x v:V) (K:Store->Option R):C.storeV t S x v K=(C.storeV t S x v some).bind K:=by
 unfold Ctx.storeV
 repeat' split
 all_goals rfl
theorem Qgz (C:Ctx) (op:BinOp) (t:Nat) (S:Store) (x y:V) (K:V->Option R):C.binOpV op t S x y K=(C.binOpV op t S x y some).bind K:=by
 unfold Ctx.binOpV
 repeat' split
 all_goals rfl
theorem Qfp (C:Ctx) (t:Nat) (S:Store) (x y:V) (K:V->Option R):C.indexAddrV t S x y K=(C.indexAddrV t S x y some).bind K:=by
 unfold Ctx.indexAddrV
 repeat' split
 all_goals first|rfl|skip
 rw [Qa0,Qa0 C _ _ _ (λcs=>some (V.cptr cs))]
 cases C.castAll _ _ _ some<;>rfl
theorem Qgy (C:Ctx) (t:Nat) (S:Store) (x:V) (lo hi mx:Option V) (K:V->Option R):C.sliceV t S x lo hi mx K=(C.sliceV t S x lo hi mx some).bind K:=by
 unfold Ctx.sliceV Qdz Qc6
 repeat' split
 all_goals rfl
theorem Qhx (C:Ctx) (t:Nat) (S:Store) (x:V) (lo hi:Option V) (K:V->Option R):C.sliceArr t S x lo hi K=(C.sliceArr t S x lo hi some).bind K:=by
 unfold Ctx.sliceArr
 repeat' split
 all_goals rfl
theorem Qr9 (C:Ctx) (src dst:Nat) (S:Store) (x:V) (K:V->Store->Option R):C.convertV src dst S x K=Bd (C.convertV src dst S x K0) K:=by
 unfold Ctx.convertV
 repeat' split
 all_goals rfl
theorem Qsy (C:Ctx) (t:Nat) (S:Store) (n:Int) (K:V->Store->Option R):C.makeSliceV t S n K=Bd (C.makeSliceV t S n K0) K:=by
 unfold Ctx.makeSliceV
 repeat' split
 all_goals rfl
theorem Qn0 (C:Ctx) (I:Inl R) (I':Inl (V×Store)) (b:Bool) (f:V) (args:List V) (S:Store) (K:V->Store->Option R) (h:∀g caps,f=.func g caps->C.inPl g=none):C.callV I b f args S K=Bd (C.callV I' b f args S K0) K:=by
 unfold Ctx.callV
 cases f<;>try rfl
 rename_i g caps
 simp only [h g caps rfl]
 repeat' split
 all_goals first|rfl|skip
 rename_i p _ _
 cases p.m<;>rfl
theorem Qq6 (C:Ctx) (I:Inl R) (I':Inl (V×Store)) (b:Bool) (o:Oper) (env:Env) (S:Store) (K:V->Store->Option R) (h:isInl C o env=false):C.evOp I b o env S K=Bd (C.evOp I' b o env S K0) K:=by
 obtain ⟨dst,op,type,pos,after,guard⟩:=o
 unfold Ctx.evOp
 cases op<;>simp only
 case load t a=>rw [Qaw,Qaw C _ _ _ (λv=>K0 v S)];cases C.loadV t S (C.opv env 0 a) some<;>rfl
 case store t a x=>rw [Qhc,Qhc C _ _ _ _ (λS'=>K0 _ S')];cases C.storeV t S (C.opv env 0 a) (C.opv env t x) some<;>rfl
 case binOp op t x y z=>rw [Qgz,Qgz C _ _ _ _ _ (λv=>K0 v S)];cases C.binOpV op t S (C.opv env t x) (C.opv env t y) some<;>rfl
 case convert src d x=>exact Qr9 ..
 case buildSlice t len parts=>
  cases C.ownD dst<;>simp only [Zd,Zc]<;>(repeat' split)<;>rfl
 case indexAddr t x ix=>rw [Qfp,Qfp C _ _ _ _ (λv=>K0 v S)];cases C.indexAddrV t S (C.opv env t x) (C.opv env 0 ix) some<;>rfl
 case call c=>
  split
  ·rename_i f hf
   refine Qn0 C I I' b _ _ S K (λg caps he=>?_)
   simp only [isInl,hf,he] at h
   simpa using h
  ·split
   all_goals first|rfl|skip
   ·repeat' split
    all_goals rfl
   ·cases C.keepD dst<;>cases b<;>simp only [Zd,Zc]<;>(repeat' split)
    all_goals first|rfl|exact Qfi .. | exact Qvm .. | exact Qug ..
   ·unfold maxV;split<;>rfl
   ·unfold minV;split<;>rfl
   ·exact Qt1 ..
   ·repeat' split
    all_goals rfl
   ·repeat' split
    all_goals rfl
  ·unfold Ctx.invokeV
   repeat' split
   all_goals first|rfl|skip
   rename_i p _ _
   cases p.m<;>rfl
 case pick c x y=>
  repeat' split
  all_goals first|rfl|(rename_i c _ _ _ _;cases c<;>rfl)|(rename_i c _ _ _;cases c<;>rfl)|skip
 case slice t x lo hi mx=>
  split
  ·split
   ·rw [Qhx,Qhx C _ _ _ _ _ (λv=>K0 v S)];cases C.sliceArr t S (C.opv env 0 x) (lo.map (C.opv env 0)) (hi.map (C.opv env 0)) some<;>rfl
   ·rfl
  ·rw [Qgy,Qgy C _ _ _ _ _ _ (λv=>K0 v S)];cases C.sliceV t S (C.opv env t x) (lo.map (C.opv env 0)) (hi.map (C.opv env 0)) (mx.map (C.opv env 0)) some<;>rfl
 case makeSlice t l c=>
  split
  ·split
   ·exact Qsy ..
   ·rfl
  ·rfl
 case index t x ix=>
  repeat' split
  all_goals first|rfl|skip
  rename_i e _ _ _
  rw [Qa2,Qa2 C _ _ (λv=>K0 v S)]
  cases C.cast _ _ some<;>rfl
 case next it b=>cases b<;>simp only<;>(repeat' split)<;>rfl
 all_goals first|rfl|((repeat' split)<;>rfl)|skip
def Mem.freeze (M:Mem) (id ver:Nat) (c:V):Mem:=
 {M with O:=λb=>M.O b/\¬∃o cap,M.μ id=some (.blk b o cap),S:=upd M.S id (.imm ver c)}
theorem Qeu {M:Mem} (hM:M.ok) {id ver:Nat} {g:Bool} {e:Nat} {c:V} (hk:M.S id=.arr ver g e c):Step M (M.freeze id ver c) where
 size:=Z5 _
 os:=rfl
 tape:=rfl
 output:=rfl
 keep b hb hn:=⟨rfl,⟨λh=>h.1,λh=>⟨h,λ⟨o,cap,he⟩=>hn ⟨id,o,cap,by rw [hk];rfl,he⟩⟩⟩⟩
 osub b hb h:=h.1
 own' b hb h:=by
  obtain ⟨i,o,cap,h1,h2⟩:=h
  by_cases ei:i=id
  ·subst ei
   rw [show (M.freeze i ver c).S i=.imm ver c from upd_same] at h1
   simp [Blk.own] at h1
  ·rw [show (M.freeze id ver c).S i=M.S i from upd_ne ei] at h1
   exact ⟨i,o,cap,h1,h2⟩
 refs cv v hr:=by
  obtain ⟨h1,h2⟩:=hr
  refine ⟨h1,?_⟩
  have other:∀i,i≠id->(M.freeze id ver c).S i=M.S i:=λi hi=>upd_ne hi
  have same:(M.freeze id ver c).S id=.imm ver c:=upd_same
  have hc:∀ver',contentB (.imm ver c) ver'=contentB (M.S id) ver':=λver'=>by rw [hk];rfl
  have hv:∀ver',verLe (M.S id) ver'->verLe (.imm ver c) ver':=λver' h=>by rw [hk] at h;exact h
  cases v<;>simp only [Mem.Ref1] at h2 ⊢
  ·rename_i i off
   refine ⟨h2.1,λhf=>?_⟩
   by_cases ei:i=id
   ·subst ei;rw [same] at hf;simp [Blk.fix] at hf
   ·rw [other i ei] at hf;exact h2.2 hf
  ·rename_i i ver' ix off
   obtain ⟨⟨hs,hvl⟩,h2⟩:=h2
   by_cases ei:i=id
   ·subst ei;rw [same];exact ⟨⟨hs,hv _ hvl⟩,λc' h=>h2 c' (by rw [<-hc];exact h)⟩
   ·rw [other i ei];exact ⟨⟨hs,hvl⟩,h2⟩
  ·rename_i i ver'
   obtain ⟨⟨hs,hvl⟩,h2⟩:=h2
   by_cases ei:i=id
   ·subst ei;rw [same];exact ⟨⟨hs,hv _ hvl⟩,λc' h=>h2 c' (by rw [<-hc];exact h)⟩
   ·rw [other i ei];exact ⟨⟨hs,hvl⟩,h2⟩
  ·rename_i i ver' lo n
   obtain ⟨⟨hs,hvl⟩,h2⟩:=h2
   by_cases ei:i=id
   ·subst ei;rw [same];exact ⟨⟨hs,hv _ hvl⟩,λc' h=>h2 c' (by rw [<-hc];exact h)⟩
   ·rw [other i ei];exact ⟨⟨hs,hvl⟩,h2⟩
theorem Ql2 {M:Mem} (hM:M.ok) {id ver:Nat} {g:Bool} {e:Nat} {c:V} (hk:M.S id=.arr ver g e c):(M.freeze id ver c).ok where
 blk i l h:=by
  have h:M.μ i=some l:=h
  by_cases ei:i=id
  ·subst ei
   rw [show (M.freeze i ver c).S i=.imm ver c from upd_same]
   have hB:=hM.blk i l h
   rw [hk] at hB
   obtain ⟨_,hB⟩:=hB
   have hx:∀v:V,isExact (unexact v)=false:=λv=>by cases v<;>rfl
   have hfu:∀v:V,flatV (unexact v)=flatV v:=λv=>by cases v<;>rfl
   cases l with
   |
    nil a=>
    refine ⟨0,(Qk hB.2).2,.slice a 0 0 (unexact c) [] (λ_=>Go.undef) (by rw [hfu];exact hB.2) (λ_=>rfl) (Z5 _) (λ_=>rfl) (λj hj=>by simp at hj) (λj hj=>by simp at hj) (λj hj=>by simp at hj)⟩
   |
    blk b o cap=>
    obtain ⟨n,fl,cur,fz,a1,rfl,a3,a4,a5,a6,a7,a8,a9,a10⟩:=hB
    have hl:=Qk a1
    refine ⟨n,hl.2,.slice (some ⟨b,0,none⟩) n cap (unexact c) fl (λj=>cur.getD j Go.undef) (by rw [hfu];exact a1) (λhh=>by rw [hx] at hh;simp at hh) a3 (by simp) (λj hj=>⟨_,rfl,λho=>ho.2 ⟨0,cap,h⟩,?_⟩) (λj hj=>(a10 j hj).2) (λj hj=>(Qeu hM hk).rep0 hM (a10 j hj).1)⟩
    have:j<cur.size:=by rw [a6];exact Z12 (by omega) (Z13 _ a3)
    show M.w.cell? _=_
    rw [Addr.add_lit,Z25]
    simp [World.cell?,a5,Z0,this]
  ·rw [show (M.freeze id ver c).S i=M.S i from upd_ne ei]
   refine Qbb hM (Qeu hM hk) (hM.blk i l h) (λho b o cap he=>⟨rfl,?_⟩)
   subst he
   exact ⟨hM.own ⟨i,o,cap,ho,h⟩,λ⟨o',cap',h'⟩=>ei (hM.inj i id _ _ _ _ _ ho (by rw [hk];rfl) h h')⟩
 inj i i' b o o' cap cap' h1 h2 h3 h4:=by
  have key:∀j,((M.freeze id ver c).S j).own=true->j≠id/\(M.S j).own=true:=λj hj=>by
   by_cases ej:j=id
   ·subst ej;rw [show (M.freeze j ver c).S j=.imm ver c from upd_same] at hj;simp [Blk.own] at hj
   ·rw [show (M.freeze id ver c).S j=M.S j from upd_ne ej] at hj;exact ⟨ej,hj⟩
  exact hM.inj i i' b o o' cap cap' (key i h1).2 (key i' h2).2 h3 h4
 low b h:=hM.low b h.1
def Mem.is (M:Mem) (S:Store):Prop:=∀id,M.S id=S.getD id .dead
theorem Qc9 {S S':Store} (h:∀id ver,contentOf S' id ver=contentOf S id ver) (v:V):immOf S' v=immOf S v:=by
 cases v<;>simp only [immOf,h]
structure W5 (M M':Mem) (S S':Store):Prop where
 step:Step M M'
 ok:M'.ok
 is:M'.is S'
 w:M'.w=M.w
 μ:M'.μ=M.μ
 len:S'.length=S.length
 content:∀id ver,contentOf S' id ver=contentOf S id ver
theorem W5.refl {M:Mem} (hM:M.ok) {S:Store} (hi:M.is S):W5 M M S S:=⟨.refl M,hM,hi,rfl,rfl,rfl,λ_ _=>rfl⟩
theorem W5.trans {M M' M'':Mem} {S S' S'':Store} (h:W5 M M' S S') (h':W5 M' M'' S' S''):W5 M M'' S S'':=
 ⟨h.step.trans h'.step,h'.ok,h'.is,h'.w.trans h.w,h'.μ.trans h.μ,h'.len.trans h.len,λid ver=>(h'.content id ver).trans (h.content id ver)⟩
theorem Qp2 {M:Mem} (hM:M.ok) {S:Store} (hi:M.is S) (v:V):∃M',W5 M M' S (freezeOne S v):=by
 have key:∀i,∃M',W5 M M' S (match S.getD i .dead with | .arr ver _ _ c=>S.set i (.imm ver c)|_=>S):=by
  intro i
  split
  ·rename_i ver g e c hk
   have hk':=(hi i).trans hk
   refine ⟨M.freeze i ver c,Qeu hM hk',Ql2 hM hk',λid=>?_,rfl,rfl,by simp,λid ver'=>?_⟩
   ·rw [getD_set_store (Wm hk (by simp))]
    split
    ·rename_i h;subst h;exact upd_same
    ·rename_i h;exact (upd_ne h).trans (hi id)
   ·unfold contentOf
    rw [getD_set_store (Wm hk (by simp))]
    split
    ·rename_i h;subst h;rw [hk];rfl
    ·rfl
  ·exact ⟨M,.refl hM hi⟩
 cases v<;>first|exact ⟨M,.refl hM hi⟩|exact key _
theorem Qnh {M:Mem} (hM:M.ok):∀(cs:List V) {S:Store} {M:Mem},M.ok->M.is S->∃M',W5 M M' S (Qba S cs)
 |[],S,M,hM,hi=>⟨M,.refl hM hi⟩
 |
  v::vs,S,M,hM,hi=>by
  obtain ⟨M1,h1⟩:=Qp2 hM hi v
  obtain ⟨M2,h2⟩:=Qnh hM vs h1.ok h1.is
  exact ⟨M2,h1.trans h2⟩
theorem Qb6:∀(cs:List V) {S:Store} {M:Mem},M.ok->M.is S->∃M',W5 M M' S (Wa S cs)
 |[],S,M,hM,hi=>⟨M,.refl hM hi⟩
 |
  v::vs,S,M,hM,hi=>by
  obtain ⟨M1,h1⟩:=Qnh hM (cellsOf v) hM hi
  obtain ⟨M2,h2⟩:=Qb6 vs h1.ok h1.is
  exact ⟨M2,h1.trans h2⟩
def still (S:Store):V->Prop
 |.sref id _ | .sview id _ _ _=>∀ver g e c,S.getD id .dead≠.arr ver g e c
 |_=>True
theorem freezeOne_arr {S:Store} {v:V} {i ver:Nat} {g:Bool} {e:Nat} {c:V} (h:(freezeOne S v).getD i .dead=.arr ver g e c):S.getD i .dead=.arr ver g e c:=by
 have key:∀j,(match S.getD j .dead with | .arr ver _ _ c=>S.set j (.imm ver c)|_=>S).getD i .dead=.arr ver g e c->S.getD i .dead=.arr ver g e c:=by
  intro j h
  split at h
  ·rename_i hk
   rw [getD_set_store (Wm hk (by simp))] at h
   split at h
   ·simp at h
   ·exact h
  ·exact h
 cases v<;>first|exact h|exact key _ h
theorem Qtp {S:Store} {u v:V} (h:still S u):still (freezeOne S v) u:=by
 cases u<;>simp only [still] at h ⊢<;>(intro ver g e c hk;exact h ver g e c (freezeOne_arr hk))
theorem Qta {S:Store} {v:V}:still (freezeOne S v) v:=by
 have key:∀i ver g e c,(match S.getD i .dead with | .arr ver _ _ c=>S.set i (.imm ver c)|_=>S).getD i .dead≠.arr ver g e c:=by
  intro i ver g e c h
  split at h
  ·rename_i hk
   rw [getD_set_store (Wm hk (by simp)),if_pos rfl] at h
   simp at h
  ·rename_i hk;exact hk _ _ _ _ h
 cases v<;>simp only [still,freezeOne]<;>exact key _
theorem Qht:∀(cs:List V) {S:Store} {u:V},still S u\/u∈cs->still (Qba S cs) u
 |[],S,u,h=>h.elim id (λh=>by simp at h)
 |
  v::vs,S,u,h=>by
  refine Qht vs ?_
  rcases h with h|h
  ·exact .inl (Qtp h)
  ·rcases Z67.1 h with rfl|h
   ·exact .inl Qta
   ·exact .inr h
theorem Qb0:∀(vs:List V) {S:Store} {u:V},(still S u\/∃v∈vs,u∈cellsOf v)->still (Wa S vs) u
 |[],S,u,h=>h.elim id (λ⟨v,h,_⟩=>by simp at h)
 |
  v::vs,S,u,h=>by
  refine Qb0 vs ?_
  rcases h with h|⟨w,hw,hu⟩
  ·exact .inl (Qht _ (.inl h))
  ·rcases Z67.1 hw with rfl|hw
   ·exact .inl (Qht _ (.inr hu))
   ·exact .inr ⟨w,hw,hu⟩
theorem Qq5 {S:Store} {id ver:Nat} {c:V} (h:contentOf S id ver=some c) (hc:contentVal c=true):immOf S (.sref id ver)=unexact c:=by
 simp only [immOf,h]
 cases c<;>simp [contentVal] at hc<;>rfl
theorem Qg5 {M:Mem} (hM:M.ok) {S:Store} (hi:M.is S) {cv:Value} {v:V} (hr:Rep M cv v) (hs:still S v):Rep M cv (immOf S v):=by
 cases v<;>try exact hr
 ·rename_i id ver
  cases hc:contentOf S id ver with
  |none=>simp only [immOf,hc];exact .imm (.undef _)
  |
   some c=>
   have hc':contentB (M.S id) ver=some c:=by rw [hi id];exact hc
   have hblk:∃ver',M.S id=.imm ver' c:=by
    unfold contentB at hc'
    split at hc'
    ·rename_i h;rw [hi id] at h;exact (hs _ _ _ _ h).elim
    ·rename_i ver' c2 h
     split at hc'
     ·simp only [Zs] at hc';subst hc';exact ⟨ver',h⟩
     ·simp at hc'
    ·simp at hc'
   obtain ⟨ver',hk⟩:=hblk
   obtain ⟨_,_,hp⟩:=W8 hr
   obtain ⟨loc,n,hμ,hn,rfl⟩:=hp c hc'
   have hB:=hM.blk id loc hμ
   rw [hk] at hB
   obtain ⟨n',hn',hB⟩:=hB
   rw [hn] at hn';simp only [Zs] at hn';subst hn'
   have hcv:contentVal c=true:=by cases c<;>simp [lenV] at hn<;>rfl
   rw [Qq5 hc hcv]
   exact .imm hB
 ·rename_i id ver lo k
  cases hc:contentOf S id ver with
  |none=>simp only [immOf,hc];exact .imm (.undef _)
  |
   some c=>
   have hc':contentB (M.S id) ver=some c:=by rw [hi id];exact hc
   have hblk:∃ver',M.S id=.imm ver' c:=by
    unfold contentB at hc'
    split at hc'
    ·rename_i h;rw [hi id] at h;exact (hs _ _ _ _ h).elim
    ·rename_i ver' c2 h
     split at hc'
     ·simp only [Zs] at hc';subst hc';exact ⟨ver',h⟩
     ·simp at hc'
    ·simp at hc'
   obtain ⟨ver',hk⟩:=hblk
   obtain ⟨_,_,hp⟩:=Yd hr
   obtain ⟨loc,m,a,cap',hμ,hm,hle,hnc,rfl,hna,hpos⟩:=hp c hc'
   have hB:=hM.blk id loc hμ
   rw [hk] at hB
   obtain ⟨n',hn',hB⟩:=hB
   rw [hm] at hn';simp only [Zs] at hn';subst hn'
   have hcv:contentVal (unexact c)=true:=by cases c<;>simp [lenV] at hm<;>rfl
   obtain ⟨A,n2,cap2,fl,cf,he,hf,_,hle2,hA,hcell,hone,hrr⟩:=Wo (M:=M) hcv (.imm hB)
   have hf':flatV c=some (n2,fl):=by rw [<-hf];cases c<;>rfl
   have hl:=Qk hf'
   have hn2:n2=m:=by have:=hl.2;rw [hm] at this;simpa using this.symm
   subst hn2
   simp only [immOf,hc]
   have hex:isExact (subV lo k c)=false:=by cases c<;>simp [lenV] at hm<;>rfl
   refine .imm (Qma (A:=A) hl.1 hle hcell hone hrr (Qnm hf' hle) hnc (λh=>by rw [hex] at h;simp at h) (λh=>(hna h).1) (λhk=>?_))
   obtain ⟨b,o,cap3,rfl,rfl⟩:=hpos hk
   simp only [Qy,Value.slice.injEq] at he
   rw [<-he.1,Option.map_some,Addr.add_lit]
theorem Qf9 {M:Mem} (hM:M.ok) {S:Store} (hi:M.is S) {cv:Value} {v:V} (hr:Rep M cv v) (hs:∀u∈cellsOf v,still S u):Rep M cv (immDeep S v):=by
 by_cases ha:∃cs,v=.agg cs
 ·obtain ⟨cs,rfl⟩:=ha
  obtain ⟨cvs,rfl,hl,ho,hrr⟩:=Wk hr
  simp only [immDeep]
  refine .agg cvs _ (by simpa using hl) (λj hj=>ho j (by simpa using hj)) (λj hj=>?_)
  rw [Z18]
  exact Qg5 hM hi (hrr j (by simpa using hj)) (hs _ (Z10 _))
 ·have e1:immDeep S v=immOf S v:=by cases v<;>first|rfl|exact absurd ⟨_,rfl⟩ ha
  have e2:cellsOf v=[v]:=by cases v<;>first|rfl|exact absurd ⟨_,rfl⟩ ha
  rw [e1]
  exact Qg5 hM hi hr (hs v (by rw [e2];simp))
structure Now (M:Mem) (S:Store):Prop where
 ok:M.ok
 is:M.is S
 fresh:∀id,S.length<=id->M.μ id=none
theorem Post.now {M M':Mem} {S S':Store} {wr:List Nat} (h:Now M S) (hp:Post M M' S S' wr):Now M' S' where
 ok:=hp.ok
 is id:=by
  by_cases hw:id∈wr
  ·exact hp.wrS id hw
  ·rw [hp.keepM id hw,hp.keepS id hw];exact h.is id
 fresh id hid:=by
  have hl:=hp.len
  by_cases e:id=S.length
  ·subst e
   cases hμ:M'.μ S.length with
   |none=>rfl
   |
    some l=>
    have:=hp.μ' (by rw [hμ];rfl)
    rcases this with h1|h1
    ·rw [h.fresh _ (Z5 _)] at h1;simp at h1
    ·omega
  ·have:=hp.μ id e
   rw [h.fresh id (by omega)] at this
   simpa using this
theorem W5.now {M M':Mem} {S S':Store} (h:Now M S) (hf:W5 M M' S S'):Now M' S':=
 ⟨hf.ok,hf.is,λid hid=>by rw [hf.μ];exact h.fresh id (by rw [<-hf.len];exact hid)⟩
section
variable {P:Program} {C:Ctx} (hC:Q8 P C) {a:Act} {M:Mem} {S:Store} {env:Env} {v:V} {S':Store} {next:Act->World->Prop} {Q:Exit->Act->World->Prop} {I:Inl (V×Store)}
def Qgt (a:Act) (M:Mem) (S:Store) (dst:Option Nat) (v:V) (S':Store) (next:Act->World->Prop):Prop:=
 ∀cv M',Step M M'->Now M' S'->Rep M' cv v->S.length<=S'.length->next (a.put dst cv) M'.w
theorem Quy (hT:C.T.check P=true) (hN:Now M S) {t tx:Nat} {x y:V} {cx cy:Value} (h:C.appendK t S x y K0=some (v,S')) (hx:Rep M cx x) (hy:Rep M cy y) {e' ty:TypeId} (hk:P.underlying tx=some (.slice e')) :
  ∃cv M',(Builtin.append_ #[t,tx] ty #[cx,cy]).run P M.w=.ok cv M'.w/\Step M M'/\Now M' S'/\Rep M' cv v/\S'.length=S.length:=by
 have hM:=hN.ok
 unfold Ctx.appendK at h
 split at h
 case h_2=>simp at h
 rename_i e hd
 by_cases hb:C.bad e=true
 ·rw [if_pos hb] at h;simp at h
 rw [if_neg hb] at h
 have hb:C.bad e=false:=by simpa using hb
 split at h
 case h_2=>simp at h
 rename_i n m hn hm
 split at h
 case isTrue=>simp at h
 rename_i hb0
 split at h
 case isFalse=>simp at h
 rename_i hby
 have hu:=(Wg hT hd).1
 obtain ⟨j,z,hj,hs,hbs,hz,h2,h3,h4⟩:=Y6 hT hb
 split at h
 case h_2=>simp at h
 rename_i id ver
 split at h
 case h_2=>simp at h
 rename_i ver' e2 c hk0
 split at h
 case isFalse=>simp at h
 rename_i hc
 obtain ⟨rfl,rfl,hzc⟩:=hc
 split at h
 case h_2=>simp at h
 rename_i c' happ
 simp only [K0,Zs,Z3] at h
 obtain ⟨rfl,rfl⟩:=h
 obtain ⟨_,hsx,hp⟩:=W8 hx
 have hk1:=(hN.is id).trans hk0
 have hlt:=Wm hk0 (by simp)
 have hcc:contentB (M.S id) ver'=some c:=by rw [hk1];simp [contentB]
 obtain ⟨loc,n0,hμ,hn0,rfl⟩:=hp c hcc
 have hn1:n0=n:=by
  simp only [lenOf,contentOf,hk0,contentB,if_true] at hn
  rw [hn0] at hn;simpa using hn
 subst hn1
 have hcv:contentVal (immOf S y)=true:=by
  unfold Wh at happ
  split at happ<;>first|(simp at happ;done)|(rename_i h1;rw [h1];rfl)
 obtain ⟨m',fl',news,hfy,hzy,hsrc,hnw,hr'⟩:=Qge (Yu hM (λid _=>hN.is id) hy hcv) hk
 have hmm:m'=m:=by
  have hl:=(Qk hfy).2
  cases y<;>try (simp [lenOf,immOf] at hm hl;first|(rw [hl] at hm;simpa using hm)|(simp [lenV] at hm;done))
  ·simp only [lenOf] at hm
   split at hm
   ·rename_i c hcc
    simp only [immOf,hcc] at hl
    cases c<;>simp [lenV] at hm hl<;>omega
   ·simp at hm
  ·rename_i id ver lo k
   simp only [lenOf] at hm
   split at hm
   ·rename_i c hcc
    simp only [Zs] at hm;subst hm
    obtain ⟨_,_,hp⟩:=Yd hy
    obtain ⟨_,m0,_,_,_,hm0,hle,_⟩:=hp c (by rw [hN.is id];exact hcc)
    simp only [immOf,hcc] at hl
    cases c<;>simp [lenV,subV] at hm0 hl<;>omega
   ·simp at hm
 subst hmm
 have hmx:n0+m'<=140737488355328:=Z46 (by
  calc n0+m'=(n0+m')*1:=by omega
   _<=(n0+m')*(C.ty e2).bytes:=Nat.mul_le_mul_left _ (by omega)) hby
 have hB:=hM.blk id _ hμ
 rw [hk1] at hB
 obtain ⟨hB0,hB⟩:=hB
 have hfc:∃fl,flatV c=some (n0,fl):=by
  cases loc with
  |
   nil a=>
   have:=hB.2
   have h9:=(Qk this).2
   rw [hn0] at h9;simp only [Zs] at h9;subst h9
   exact ⟨_,this⟩
  |
   blk b o cap=>
   obtain ⟨n2,fl,_,_,hf,_⟩:=hB
   have h9:=(Qk hf).2
   rw [hn0] at h9;simp only [Zs] at h9;subst h9
   exact ⟨_,hf⟩
 obtain ⟨fl,hfc⟩:=hfc
 obtain ⟨hf',hz',hzy',_,_⟩:=J4 happ hfc hfy
 have hl1:=Qk hfc;have hl2:=Qk hfy
 have hsrc:Src P j.size tx cy m' news M.w:=by rw [hs,<-hzc,<-hzy'];exact hsrc
 have hnl:fl'.length=m'*(C.ty e2).size:=by rw [hl2.1,hzy',hzc]
 have hol:fl.length=n0*(C.ty e2).size:=by rw [hl1.1,hzc]
 have hfu:∀v:V,flatV (unexact v)=flatV v:=λv=>by cases v<;>rfl
 have hxu:∀v:V,isExact (unexact v)=false:=λv=>by cases v<;>rfl
 have wk:∀{w':World},M.w.grownBy w' none->M.w.grownBy w' (rowOf loc):=λhw=>⟨hw.os,hw.tape,hw.output,hw.size,λk hk _=>hw.block k hk (by simp)⟩
 have fin:∀{base:Option Addr} {cap':Nat} {w':World} {cf:Nat->Value},(Builtin.append_ #[t,tx] ty #[Qy loc n0,cy]).run P M.w=.ok (.slice base (n0+m') cap') w'->M.w.grownBy w' (rowOf loc) ->
   (Step M (M.push id (.arr ver' true e2 c) loc w')->BlkOK (M.push id (.arr ver' true e2 c) loc w') loc (.arr ver' true e2 c))->n0+m'<=cap'->(base=none->cap'=0) ->
   (∀j,j<(fl++fl').length->∃a,base=some a/\(M.w.heap.size<=a.block\/∃o cap,loc=.blk a.block o cap)/\w'.cell? (a.add j)=some (cf j))->(∀j (h:j<(fl++fl').length),Rep0 M.O M.w (cf j) (fl++fl')[j]/\(cf j).oneCell'=true) ->
   ∃cv M',(Builtin.append_ #[t,tx] ty #[Qy loc n0,cy]).run P M.w=.ok cv M'.w/\Step M M'/\Now M' (S.set id (.imm ver' c))/\Rep M' cv (unexact c')/\(S.set id (.imm ver' c)).length=S.length:=λ{base cap' w' cf} hrun hg hb1 hle hbn hcell hcf=>by
  have hW:Wi M id loc loc (.arr ver' true e2 c) w':=
   {
    μ:=hμ,own:=by rw [hk1];rfl,w:=hg,dst:=λb o cap he=>⟨Z12 (hB0 b o cap he).2 hg.size,.inr ⟨o,cap,he⟩⟩,fix:=λh=>by simp [Blk.fix] at h,
    refs:=λver'' c'' hle hc=>⟨rfl,c'',by rw [hk1];exact hc,rfl,rfl⟩,ver:=λver'' hv=>by rw [hk1] at hv;exact hv}
  have st1:=write_step hM hW
  have ok1:=Qm7 hM hW (hb1 st1)
  have hk2:(M.push id (.arr ver' true e2 c) loc w').S id=.arr ver' true e2 c:=upd_same
  have st2:=Qeu ok1 hk2
  have ok2:=Ql2 ok1 hk2
  have hμ2:(M.push id (.arr ver' true e2 c) loc w').μ id=some loc:=upd_same
  refine ⟨_,(M.push id (.arr ver' true e2 c) loc w').freeze id ver' c,hrun,st1.trans st2,⟨ok2,λi=>?_,λi hi=>?_⟩,.imm (.slice base (n0+m') cap' (unexact c') (fl++fl') cf (by rw [hfu];exact hf') (λhh=>by rw [hxu] at hh;simp at hh) hle hbn (λj hj=>?_) (λj hj=>(hcf j hj).2) (λj hj=>(st1.trans st2).rep0 hM (hcf j hj).1)),by simp⟩
  ·rw [getD_set_store hlt]
   split
   ·rename_i he;subst he;exact upd_same
   ·rename_i he;exact (upd_ne he).trans ((upd_ne he).trans (hN.is i))
  ·rw [List.length_set] at hi
   exact (upd_ne (by omega)).trans (hN.fresh i hi)
  ·obtain ⟨a,ha,hloc,hce⟩:=hcell j hj
   refine ⟨a,ha,λho=>?_,hce⟩
   obtain ⟨ho1,ho2⟩:=ho
   rcases hloc with h9|⟨o,cap,h9⟩
   ·rcases ho1 with h8|⟨o,cap,h8⟩
    ·have:=hM.low _ h8;omega
    ·have:=(hB0 _ _ _ h8).2;omega
   ·exact ho2 ⟨o,cap,by rw [hμ2,h9]⟩
 have same:∀{w':World},M.w.grownBy w' none->Step M (M.push id (.arr ver' true e2 c) loc w')->BlkOK (M.push id (.arr ver' true e2 c) loc w') loc (.arr ver' true e2 c):=λ{w'} hg hst=>by
  have hB1:=hM.blk id _ hμ
  rw [hk1] at hB1
  exact Qbb hM hst hB1 λ_ b o cap he=>⟨hg.block b (hB0 b o cap he).2 (by simp),.inr ⟨o,cap,he⟩⟩
 have grow:∀{base:Option Addr} {sCap:Nat} {olds:List Value},Qy loc n0=.slice base n0 sCap ->
   (Builtin.firstCells j.size n0 (.slice base n0 sCap)).run P M.w.drew=.ok olds.toArray M.w.drew->sCap<n0+m'->olds.length=fl.length ->
   (∀j (h:j<fl.length),Rep0 M.O M.w (olds.getD j Go.undef) fl[j]/\(olds.getD j Go.undef).oneCell'=true) ->
   ∃cv M',(Builtin.append_ #[t,tx] ty #[Qy loc n0,cy]).run P M.w=.ok cv M'.w/\Step M M'/\Now M' (S.set id (.imm ver' c))/\Rep M' cv (unexact c')/\(S.set id (.imm ver' c)).length=S.length:=λ{base sCap olds} hcx hold hg ho h5=>by
  have hrun:=run_append_grow_src (P:=P) M.w t tx ty e2 j z hu hj hz base n0 sCap olds hold cy m' news hsrc hg (by omega) (growslice_fits hg (by rw [hbs];exact hby))
  rw [<-hcx] at hrun
  have hget:=Qbz (M:=M) (z:=z.cells) (k:=grownCap M.w (n0+m') sCap e2-(n0+m')) ho hnw h5 hr'
  have hsz:∀i,i<(fl++fl').length->i<((olds++news).toArray++Builtin.zeroCells z.cells (grownCap M.w (n0+m') sCap e2-(n0+m'))).size:=λi hi=>by
   rw [Z2] at hi
   simp only [Array.size_append,List.size_toArray,Z2];omega
  generalize (olds++news).toArray++Builtin.zeroCells z.cells (grownCap M.w (n0+m') sCap e2-(n0+m'))=cur at *
  refine fin hrun (wk (Qei _ _)) (same (Qei _ _)) (grownCap_ge _ _ _ _) (λh=>by simp at h) (λi hi=>⟨_,rfl,.inl (Z5 _),?_⟩) hget
  rw [Addr.add_lit,Z25]
  have hw:M.w.drew.heap.size=M.w.heap.size:=rfl
  have hh:(M.w.drew.alloc (.cells cur e2)).heap[M.w.heap.size]? = some (.cells cur e2 (0,0)):=by
   simp only [World.alloc,Z27,hw,if_true]
  have:=hsz i hi
  simp only [World.cell?,hh]
  simp [Z0,this]
 by_cases hm0:m'=0
 ·subst hm0
  have hnews:news=[]:=Z6 (by rw [hnw,hnl];simp)
  have hfl':fl'=[]:=Z6 (by rw [hnl];simp)
  subst hnews hfl'
  have hg0:M.w.grownBy M.w none:=⟨rfl,rfl,rfl,Z5 _,λ_ _ _=>rfl⟩
  cases loc with
  |
   nil a=>
   have h9:=Qk hB.2
   rw [hn0] at h9
   have h10:=h9.2;simp only [Zs] at h10;subst h10
   have hfl0:fl=[]:=Z6 (by rw [hol];simp)
   subst hfl0
   exact fin (base:=a) (cap':=0) (w':=M.w) (cf:=λ_=>Go.undef) (run_append_nothing M.w t tx ty e2 j hu hj a 0 0 (Z5 _) cy hsrc) (wk hg0) (same hg0) (Z5 _) (λ_=>rfl) (λi hi=>by simp at hi) (λi hi=>by simp at hi)
  |
   blk b o cap=>
   obtain ⟨n2,fl2,cur,fz,hf2,rfl,a3,a4,a5,a6,a7,a8,a9,a10⟩:=hB
   rw [hfc] at hf2;simp only [Zs,Z3] at hf2;obtain ⟨rfl,rfl⟩:=hf2
   have hcl:fl.length<=cur.size:=by rw [hl1.1,a6];exact Z13 _ a3
   refine fin (base:=some ⟨b,0,none⟩) (cap':=cap) (w':=M.w) (cf:=λi=>cur.getD i Go.undef) (run_append_nothing M.w t tx ty e2 j hu hj _ n0 cap a3 cy hsrc) (wk hg0) (same hg0) a3 (λh=>by simp at h) (λi hi=>⟨_,rfl,.inr ⟨0,cap,rfl⟩,?_⟩) (λi hi=>?_)
   ·rw [Z35] at hi
    have:i<cur.size:=by omega
    rw [Addr.add_lit,Z25]
    simp [World.cell?,a5,Z0,this]
   ·have hi2:i<fl.length:=by rw [Z35] at hi;exact hi
    rw [Z33 hi2];exact a10 i hi2
 ·cases loc with
  |
   nil a=>
   have h9:=Qk hB.2
   rw [hn0] at h9
   have h10:=h9.2;simp only [Zs] at h10;subst h10
   have hfl0:fl=[]:=Z6 (by rw [hol];simp)
   subst hfl0
   exact grow (base:=a) (sCap:=0) (olds:=[]) rfl (by
    cases a with
    |none=>exact run_firstCells_none _ _ _ _ _
    |some a=>exact run_firstCells_some _ _ _ a 0 0 [] (by simp) (λj v h=>by simp at h)) (by omega) rfl (λj h=>by simp at h)
  |
   blk b o cap=>
   have hBk:=hB
   obtain ⟨n2,fl2,cur,fz,hf2,rfl,a3,a4,a5,a6,a7,a8,a9,a10⟩:=hB
   rw [hfc] at hf2;simp only [Zs,Z3] at hf2;obtain ⟨rfl,rfl⟩:=hf2
   have hcl:fl.length<=cur.size:=by rw [hl1.1,a6];exact Z13 _ a3
   by_cases hroom:n0+m'<=cap
   ·have hfit:n0*j.size+news.length<=cur.size:=by
     rw [hs,hnw,hnl,a6,hzc,<-Z28];exact Z13 _ hroom
    have hfz:=a7 rfl
    subst hfz
    have hrun:=run_append_room_src (P:=P) M.w t tx ty e2 j hu hj b 0 n0 cap cy m' news hsrc hroom (λi hi=>by
     have:n0*j.size+i<cur.size:=by omega
     simp [World.cell?,a5,this]) (λi hi=>by simp [World.frozen?,a5])
    rw [Z25] at hrun
    have hnj:n0*j.size=fl.length:=by rw [hol,hs]
    have hheap:=setCells_heap b news (n0*j.size) M.w a5
    refine fin (base:=some ⟨b,0,none⟩) (cap':=cap) (cf:=λi=>(arrSet cur (n0*j.size) news).getD i Go.undef) hrun (setCells_grown _ _ _ _) (λhst=>?_) hroom (λh=>by simp at h) (λi hi=>⟨_,rfl,.inr ⟨0,cap,rfl⟩,?_⟩) (λi hi=>?_)
    ·refine ⟨λ_ _ _ he=>by cases he;exact ⟨.inr ⟨0,cap,rfl⟩,Z12 (hB0 _ _ _ rfl).2 (setCells_grown _ _ _ _).size⟩,n0,fl,arrSet cur (n0*j.size) news,(0,0),hfc,rfl,a3,a4,hheap,by rw [arrSet_size,a6],λ_=>rfl,λh=>by simp at h,λi hi=>?_,λi hi=>?_⟩
     ·show (M.w.setCells b (n0*j.size) news).frozen? _=false
      rw [World.frozen?_setCells];simp [World.frozen?,a5]
     ·rw [Qb9 news cur _ i hfit,if_neg (by omega)]
      exact ⟨hst.rep0 hM (a10 i hi).1,(a10 i hi).2⟩
    ·have:i<(arrSet cur (n0*j.size) news).size:=by
      rw [arrSet_size];rw [Z2] at hi;omega
     rw [Addr.add_lit,Z25]
     simp [World.cell?,hheap,Z0,this]
    ·rw [Qb9 news cur _ i hfit]
     by_cases hi2:i<fl.length
     ·rw [if_neg (by omega),Z33 hi2]
      exact a10 i hi2
     ·have hi3:i-fl.length<fl'.length:=by simp at hi;omega
      have e9:i-n0*j.size=i-fl.length:=by rw [hnj]
      rw [if_pos (by omega),e9,Z37 (by omega)]
      exact hr' _ hi3
   ·have hcl':cur.toList.length=cur.size:=Z26
    have hget:∀i,i<fl.length->(cur.toList.take fl.length).getD i Go.undef=cur.getD i Go.undef:=λi hi=>by
     simp [Zl,Z0,Z49,hi]
    exact grow (base:=some ⟨b,0,none⟩) (sCap:=cap) (olds:=cur.toList.take fl.length) rfl
     (run_firstCells_some _ _ _ ⟨b,0,none⟩ n0 cap _ (by rw [Z11,hcl',hs,<-hol];omega) (λi v hv=>by
      rw [Addr.add_lit,Z25]
      rw [Z49] at hv
      split at hv
      ·have h5':M.w.drew.heap[b]? = some (.cells cur e2 fz):=a5
       simp only [World.cell?,h5']
       simpa using hv
      ·simp at hv)) (by omega) (by rw [Z11,hcl'];omega) (λi hi=>by rw [hget i hi];exact a10 i hi)
include hC in
theorem Qm8 (o:Oper) (hM:M.ok) (hq:S.length<S'.length->M.μ S.length=none) (hρ:∀ty x,x∈o.op.operands->Rep M (a.eval x) (C.opv env ty x)) (hA:∀ty x,x∈o.op.operands->isMv o.op=false->∀id∈refs1 (C.opv env ty x),M.S id=S.getD id .dead)
  (hinl:isInl C o env=false) (h:C.evOp I true o env S K0=some (v,S')) (hn:Next C o a M S env v S' next):o.wp P a M.w next Q:=by
 by_cases hc:∃c,o.op=.call c
 ·obtain ⟨c,hop⟩:=hc
  exact Qrg hC o hop hM hq hρ (λty x hx=>hA ty x hx (by rw [hop];rfl)) hinl h hn
 ·exact Qut hC o hM hq hρ hA (λc e=>hc ⟨c,e⟩) h hn
include hC in
theorem Qtn (o:Oper) (hN:Now M S) (he:Qx M a.tmps env) (hinl:isInl C o env=false) (h:C.evOp I false o env S K0=some (v,S')) (hn:Qgt a M S o.dst v S' next):o.wp P a M.w next Q:=by
 have hρ:∀ty x,Rep M (a.eval x) (C.opv env ty x):=λty x=>Qhp C he ty x
 have plain:C.evOp I true o env S K0=some (v,S')->o.wp P a M.w next Q:=λh'=>
  Qm8 hC o hN.ok (λ_=>hN.fresh _ (Z5 _)) (λty x _=>hρ ty x) (λ_ _ _ _ id _=>hN.is id) hinl h' λcv M' wr hr hp _=>hn cv M' hp.step (hp.now hN) hr hp.len
 obtain ⟨dst,op,type,pos,after,guard⟩:=o
 cases op<;>try exact plain h
 case next it b=>cases b<;>exact plain h
 case buildSlice t len parts=>
  simp only [Ctx.evOp] at h
  split at h
  ·rename_i hnr
   refine plain ?_
   simp only [Ctx.evOp]
   rw [if_pos hnr];exact h
  ·simp only [Z16,if_false] at h
   split at h
   case h_2=>simp at h
   rename_i w hw
   obtain ⟨M1,hf⟩:=Qb6 (parts.toList.map λp=>C.opv env (C.partType t p.1) p.2) hN.ok hN.is
   have hN1:=hf.now hN
   have hst:∀u,(∃x∈(parts.toList.map λp=>C.opv env (C.partType t p.1) p.2),u∈cellsOf x)->still (Wa S (parts.toList.map λp=>C.opv env (C.partType t p.1) p.2)) u:=λu hu=>Qb0 _ (.inr hu)
   obtain ⟨cv,w',hrun,hg,hr,_⟩:=Qgd (M:=M1) hC.tab hN1.ok (qs:=parts.map λ(i,x)=>(i,a.eval x)) hw (by simp) (λj hj hj'=>by
    have hjp:j<parts.toList.length:=by simpa using hj
    refine ⟨by simp,?_⟩
    have h1:=hf.step.rep hN.ok (hρ (C.partType t (parts.toList[j]).1) (parts.toList[j]).2)
    have h2:=Qf9 hN1.ok hN1.is h1 (λu hu=>hst u ⟨_,List.mem_map_of_mem (Z10 hjp),hu⟩)
    have h3:immDeep (Wa S (parts.toList.map λp=>C.opv env (C.partType t p.1) p.2)) (C.opv env (C.partType t (parts.toList[j]).1) (parts.toList[j]).2)=immDeep S (C.opv env (C.partType t (parts.toList[j]).1) (parts.toList[j]).2):=by
     have hh:=Qc9 hf.content
     unfold immDeep
     split
     ·congr 1;exact Z78 λu _=>hh u
     ·exact hh _
    rw [h3] at h2
    simpa using h2)
   simp only [K0,Zs,Z3] at h
   obtain ⟨rfl,rfl⟩:=h
   have hp:=post_world hN1.ok (Wa S (parts.toList.map λp=>C.opv env (C.partType t p.1) p.2)) hg
   refine W3 (w':=w') ?_ (hn cv {M1 with w:=w'} (hf.step.trans hp.step) (hp.now hN1) (.imm hr) (by rw [hf.len];exact Z5 _))
   rw [hf.w] at hrun
   simp only [execOp,Sem.run_bind,hrun,Result.andThen_ok,Sem.run_pure]
 case call c=>
  cases hcal:c.callee with
  |invoke r m=>refine plain ?_;simp only [Ctx.evOp,hcal] at h ⊢;exact h
  |
   builtin b=>
   by_cases hkp:C.keepD dst=true
   ·by_cases hb:b=.append
    ·subst hb
     simp only [Ctx.evOp,hcal] at h
     split at h
     all_goals first|contradiction|skip
     ·rename_i t u x y hbb ht hargs
      simp only [hkp,Zd] at h
      split at h
      case h_2=>simp at h
      rename_i e hd
      split at h
      case h_2=>
       rename_i hns
       refine plain ?_
       simp only [Ctx.evOp,hcal]
       rw [ht,hargs]
       simp only [hkp,Zd,hd]
       exact h
      simp only [Zc] at h
      obtain ⟨cx,cy,e1,hx,hy,_,_⟩:=Qh8 (a:=a) (M:=M) (S:=S) (λty x _=>hρ ty x) (λ_ _ _ id _=>hN.is id) hargs
      obtain ⟨cv,M',hrun,hs,hn',hr,hl⟩:=Quy hC.tab hN h hx hy (Wg hC.tab hd).1 (ty:=type)
      refine W3 (w':=M'.w) ?_ (hn cv M' hs hn' hr (by omega))
      have ht':c.argTypes = #[t,u]:=by rw [<-Array.toList_inj];exact ht
      simp only [execOp,resolve,hcal,invoke,builtin,e1,ht',Sem.run_bind,Sem.run_pure,Result.andThen_ok,hrun]
    ·refine plain ?_
     simp only [Ctx.evOp,hcal] at h ⊢
     cases b<;>first|(exact (hb rfl).elim)|skip
     all_goals
      split at h
      all_goals first
       |contradiction
       |(simp at h;done)
       |exact h
   ·refine plain ?_
    have hkp':C.keepD dst=false:=by simpa using hkp
    simp only [Ctx.evOp,hcal,hkp'] at h ⊢
    exact h
  |
   value f=>
   simp only [Ctx.evOp,hcal] at h
   unfold Ctx.callV at h
   split at h
   case h_2=>simp at h
   rename_i g caps hfv
   have hng:C.inPl g=none:=by
    simp only [isInl,hcal,hfv] at hinl
    simpa using hinl
   simp only [hng] at h
   cases hclone:C.clone g with
   |
    some e=>
    refine plain ?_
    simp only [Ctx.evOp,hcal]
    unfold Ctx.callV
    simp only [hfv,hng,hclone] at h ⊢;exact h
   |
    none=>
    simp only [hclone] at h
    split at h
    case h_2=>simp at h
    rename_i p hp
    split at h
    case isFalse=>simp at h
    rename_i hc
    simp only [Zo,Bool.true_or,Z52] at hc
    change ((argV C env c++caps).map (immDeep S)).all immV=true at hc
    change C.call g ((argV C env c++caps).map (immDeep S))=some p at hp
    change (p.m.bind λr=>K0 (p.enc r) (Wa S (argV C env c++caps)))=some (v,S') at h
    simp only [Z7] at h
    obtain ⟨r,hr,hK⟩:=h
    simp only [K0,Zs,Z3] at hK
    obtain ⟨rfl,rfl⟩:=hK
    have hf:=hρ 0 f
    rw [hfv] at hf
    obtain ⟨cvs,e1,hcl,hcr⟩:=Jd hf
    have hall:∀j (hj:j<(argV C env c++caps).length),Rep M ((c.args.map a.eval++cvs).getD j Go.undef) (argV C env c++caps)[j]:=by
     intro j hj
     by_cases h1:j<(argV C env c).length
     ·rw [Z33 h1]
      have:=Qac (λty x _=>hρ ty x) j h1
      rw [Wl] at h1
      simpa [Z0,Z44 (show j<(c.args.map a.eval).size by simpa using h1)] using this
     ·rw [Z37 (by omega)]
      have:=hcr (j-(argV C env c).length) (by simp at hj;omega)
      rw [Wl] at h1
      have e2:(c.args.map a.eval++cvs).getD j Go.undef=cvs.getD (j-(argV C env c).length) Go.undef:=by
       rw [Wl]
       simp only [Z0]
       rw [Array.getElem?_append_right (by simpa using h1)];simp
      rw [e2];exact this
    obtain ⟨M1,hfz⟩:=Qb6 (argV C env c++caps) hN.ok hN.is
    have hN1:=hfz.now hN
    have hs:=hC.call g _ p hng hclone hp M1.O M1.w (c.args.map a.eval++cvs) r hr (by simp [Wl,hcl]) (λj hj=>by
     have hj':j<(argV C env c++caps).length:=by simpa using hj
     have h1:=hfz.step.rep hN.ok (hall j hj')
     have h2:=Qf9 hN1.ok hN1.is h1 (λu hu=>Qb0 _ (.inr ⟨_,Z10 hj',hu⟩))
     have h3:immDeep (Wa S (argV C env c++caps)) (argV C env c++caps)[j]=immDeep S (argV C env c++caps)[j]:=by
      have hh:=Qc9 hfz.content
      unfold immDeep
      split
      ·congr 1;exact Z78 λu _=>hh u
      ·exact hh _
     rw [h3] at h2
     rw [Z18]
     exact Qaa h2 (by
      have:=Z14.1 hc _ (Z10 hj)
      rwa [Z18] at this)) hN1.ok.low
    rw [hfz.w] at hs
    refine Qdv (o:=⟨dst,.call c,type,pos,after,guard⟩) rfl hcal e1 hs λcv w' ⟨hg,hr0⟩=>?_
    have hg':M1.w.grownBy w' none:=by rw [hfz.w];exact hg
    have hp:=post_world hN1.ok (Wa S (argV C env c++caps)) hg'
    exact hn cv {M1 with w:=w'} (hfz.step.trans hp.step) (hp.now hN1) (.imm hr0) (by rw [hfz.len];exact Z5 _)
end
abbrev InlP:=∀R:Type,Inl R
structure InlOK (P:Program) (C:Ctx) (I:InlP):Prop where
 nat:∀(R:Type) (f:Nat) (args:List V) (S:Store) (K:V->Store->Option R),I R f args S K=Bd (I (V×Store) f args S K0) K
 sound:∀(f:Nat) (args:List V) (S:Store) (v:V) (S':Store) (M:Mem) (cargs:Array Value),I (V×Store) f args S K0=some (v,S')->Now M S->cargs.size=args.length ->
  (∀j (h:j<args.length),Rep M (cargs.getD j Go.undef) args[j])->CallR P f cargs M.w λcv w'=>∃M':Mem,M'.w=w'/\Step M M'/\Now M' S'/\Rep M' cv v/\S.length<=S'.length
section
variable {P:Program} {C:Ctx} {a:Act} {M:Mem} {S:Store} {env:Env} {v:V} {S':Store} {next:Act->World->Prop} {Q:Exit->Act->World->Prop} {I:InlP}
theorem Qm9 {o:Oper} (h:isInl C o env=true):∃c f g caps,o.op=.call c/\c.callee=.value f/\C.opv env 0 f=.func g caps/\(C.inPl g).isSome=true:=by
 unfold isInl at h
 split at h
 case h_2=>simp at h
 rename_i c hop
 split at h
 case h_2=>simp at h
 rename_i f hcal
 split at h
 case h_2=>simp at h
 rename_i g caps hfv
 exact ⟨c,f,g,caps,hop,hcal,hfv,h⟩
theorem Qgr {R:Type} {I:Inl R} {b:Bool} {o:Oper} {c:Call} {f:Operand} {g:Nat} {caps:List V} (hop:o.op=.call c) (hcal:c.callee=.value f) (hfv:C.opv env 0 f=.func g caps) (hg:(C.inPl g).isSome=true) (K:V->Store->Option R) :
  C.evOp I b o env S K=I g (argV C env c++caps) S K:=by
 obtain ⟨fn,hfn⟩:=Z55.1 hg
 unfold Ctx.evOp
 simp only [hop,hcal]
 unfold Ctx.callV
 simp only [hfv,hfn]
 rfl
theorem Qvk {c:Call} (hρ:∀ty x,x∈c.operands->Rep M (a.eval x) (C.opv env ty x)) {cvs:Array Value} {caps:List V} (hcr:∀j (h:j<caps.length),Rep M (cvs.getD j Go.undef) caps[j]) :
  ∀j (hj:j<(argV C env c++caps).length),Rep M ((c.args.map a.eval++cvs).getD j Go.undef) (argV C env c++caps)[j]:=by
 intro j hj
 by_cases h1:j<(argV C env c).length
 ·rw [Z33 h1]
  have:=Qac hρ j h1
  rw [Wl] at h1
  simpa [Z0,Z44 (show j<(c.args.map a.eval).size by simpa using h1)] using this
 ·rw [Z37 (by omega)]
  have:=hcr (j-(argV C env c).length) (by simp at hj;omega)
  rw [Wl] at h1
  have e2:(c.args.map a.eval++cvs).getD j Go.undef=cvs.getD (j-(argV C env c).length) Go.undef:=by
   rw [Wl]
   simp only [Z0]
   rw [Array.getElem?_append_right (by simpa using h1)];simp
  rw [e2];exact this
theorem Qa9 (hI:InlOK P C I) {R:Type} (b:Bool) (o:Oper) (env:Env) (S:Store) (K:V->Store->Option R):C.evOp (I R) b o env S K=Bd (C.evOp (I _) b o env S K0) K:=by
 cases h:isInl C o env with
 |false=>exact Qq6 C (I R) (I _) b o env S K h
 |
  true=>
  obtain ⟨c,f,g,caps,hop,hcal,hfv,hg⟩:=Qm9 h
  rw [Qgr hop hcal hfv hg,Qgr hop hcal hfv hg]
  exact hI.nat R g _ S K
theorem Qi7 (hI:InlOK P C I) (b:Bool) (o:Oper) (hN:Now M S) (he:∀ty x,x∈o.op.operands->Rep M (a.eval x) (C.opv env ty x)) (hinl:isInl C o env=true) (h:C.evOp (I _) b o env S K0=some (v,S')) (hn:Qgt a M S o.dst v S' next):o.wp P a M.w next Q:=by
 obtain ⟨c,f,g,caps,hop,hcal,hfv,hg⟩:=Qm9 hinl
 rw [Qgr hop hcal hfv hg] at h
 have hρ:∀ty x,x∈c.operands->Rep M (a.eval x) (C.opv env ty x):=λty x hx=>he ty x (by rw [hop];exact hx)
 have hf:=hρ 0 f (by simp [Call.operands,hcal])
 rw [hfv] at hf
 obtain ⟨cvs,e1,hcl,hcr⟩:=Jd hf
 have hs:=hI.sound g _ S v S' M (c.args.map a.eval++cvs) h hN (by simp [Wl,hcl]) (Qvk hρ hcr)
 exact Qdv hop hcal e1 hs λcv w' ⟨M',hw,hst,hN',hr,hl⟩=>by subst hw;exact hn cv M' hst hN' hr hl
theorem Qn6 (hC:Q8 P C) (hI:InlOK P C I) (o:Oper) (hN:Now M S) (he:Qx M a.tmps env) (h:C.evOp (I _) false o env S K0=some (v,S')) (hn:Qgt a M S o.dst v S' next):o.wp P a M.w next Q:=by
 cases hinl:isInl C o env with
 |false=>exact Qtn hC o hN he hinl h hn
 |true=>exact Qi7 hI false o hN (λty x _=>Qhp C he ty x) hinl h hn
theorem Qmc {env:Env} {g:Nat} {v:V} (h:env.getD g .undef=v) (hv:v≠.undef):env.set g v=env:=by
 have hg:g<env.length:=by
  by_cases hg:g<env.length
  ·exact hg
  ·rw [Zl,Z9 (by omega)] at h
   exact (hv h.symm).elim
 rw [Zl,Z1 hg] at h
 simp only [Z45] at h
 rw [<-h];exact List.set_getElem_self hg
theorem Qax (a:Act) (dst:Option Tmp) (v:Value):(a.put dst v).defers=a.defers:=by cases dst<;>rfl
theorem Qqu {ops:Array Oper} {j g:Nat} (hg:guardSlot ops j=some g) {tmps:Array Value} {b:Bool} (h:tmps.getD g Go.undef=.bool b):yielded ops tmps j=some b:=by
 have h':tmps[g]? = some (.bool b):=by
  rw [Z0] at h
  cases ht:tmps[g]? with
  |none=>rw [ht] at h;simp [Go.undef] at h
  |some x=>rw [ht] at h;simpa using h
 unfold yielded
 unfold guardSlot at hg
 simp only [hg,Zb,h']
theorem Qu7 {ops:Array Oper} {j g:Nat} (hg:guardSlot ops j=some g) {tmps:Array Value} {cvs:Array Value} (h:tmps.getD g Go.undef=.tuple cvs):yielded ops tmps j=none:=by
 unfold yielded
 unfold guardSlot at hg
 simp only [hg,Zb]
 rw [Z0] at h
 cases ht:tmps[g]? with
 |none=>rfl
 |some x=>rw [ht] at h;simp at h;subst h;rfl
def guardV (ops:Array Oper) (o:Oper) (env:Env):Option Bool:=
 match o.guard with
 |none=>some true
 |
  some (j,want)=>match guardSlot ops j with
  |none=>none
  |
   some g=>match env.getD g .undef with
   |.bool b=>some (b == want)
   |.tup []=>some false
   |_=>none
theorem Qhf {ops:Array Oper} {o:Oper} {b:Bool} (h:guardV ops o env=some b) (he:∀j want g,o.guard=some (j,want)->guardSlot ops j=some g->Rep M (a.tmps.getD g Go.undef) (env.getD g .undef)):Region.wanted o (yielded ops a.tmps)=b:=by
 unfold guardV at h
 unfold Region.wanted
 split at h
 ·rename_i hg;rw [hg];simpa using h
 ·rename_i j want hg
  rw [hg]
  split at h
  ·simp at h
  ·rename_i g hs
   have hr:=he j want g hg hs
   split at h
   ·rename_i b' hb
    rw [hb] at hr
    simp only [Qqu hs (Jc hr)]
    simp only [Zs] at h
    rw [<-h];cases b'<;>cases want<;>rfl
   ·rename_i hb
    rw [hb] at hr
    obtain ⟨cvs,e,_⟩:=Qbr hr
    simp only [Qu7 hs e]
    simpa using h
   ·simp at h
theorem Qf4 {R:Type} (I:Inl R) (b:Bool) (ops:Array Oper) (o:Oper) (rest:List Oper) (env:Env) (S:Store) (K:Env->Store->Option R) :
  C.evOps I b ops (o::rest) env S K=match guardV ops o env with
   |some true=>C.evOp I b o env S λv S'=>C.evOps I b ops rest (put env o.dst v) S' K
   |some false=>C.evOps I b ops rest (put env o.dst (.tup [])) S K
   |none=>none:=by
 cases hg:o.guard with
 |none=>simp only [Ctx.evOps,guardV,hg]
 |
  some p=>
  obtain ⟨j,want⟩:=p
  cases hs:guardSlot ops j with
  |none=>simp only [Ctx.evOps,guardV,hg,hs]
  |
   some g=>
   cases hb:env.getD g .undef<;>try (simp only [Ctx.evOps,guardV,hg,hs,hb];done)
   ·rename_i b'
    have hset:=Qmc hb (by simp)
    cases b'<;>cases want<;>simp only [Ctx.evOps,guardV,hg,hs,hb,Zd,Zc,hset]<;>rfl
   ·rename_i vs
    cases vs<;>simp only [Ctx.evOps,guardV,hg,hs,hb]
theorem Qco (hI:InlOK P C I) {R:Type} (b:Bool) (ops:Array Oper):∀(rest:List Oper) (env:Env) (S:Store) (K:Env->Store->Option R),
  C.evOps (I R) b ops rest env S K=(C.evOps (I (Env×Store)) b ops rest env S λe s=>some (e,s)).bind λp=>K p.1 p.2
 |[],env,S,K=>rfl
 |
  o::rest,env,S,K=>by
  rw [Qf4,Qf4]
  split
  ·rw [Qa9 hI b o env S,Qa9 hI b o env S (λv S'=>C.evOps (I (Env×Store)) b ops rest (put env o.dst v) S' λe s=>some (e,s))]
   cases C.evOp (I (V×Store)) b o env S K0 with
   |none=>rfl
   |some p=>exact Qco hI b ops rest _ _ K
  ·exact Qco hI b ops rest _ _ K
  ·rfl
theorem Qgp (hC:Q8 P C) (hI:InlOK P C I) {ops:Array Oper} {env':Env} {S':Store}:∀(rest:List Oper) (l:List Nat) (env:Env) (S:Store) (a:Act) (M:Mem),l.map (ops[·]?)=rest.map some->Now M S->Qx M a.tmps env ->
  C.evOps (I (Env×Store)) false ops rest env S (λe s=>some (e,s))=some (env',S') ->
  (∀a' M',Step M M'->Now M' S'->Qx M' a'.tmps env'->a'.defers=a.defers->S.length<=S'.length->Q .normal a' M'.w)->wpOps P ops Q l a M.w
 |
  [],[],env,S,a,M,hl,hN,he,h,hQ=>by
  simp only [Ctx.evOps,Zs,Z3] at h
  obtain ⟨rfl,rfl⟩:=h
  exact hQ a M (.refl M) hN he rfl (Z5 _)
 |
  o::rest,i::l,env,S,a,M,hl,hN,he,h,hQ=>by
  simp only [List.map_cons,List.cons.injEq] at hl
  obtain ⟨hi,hl⟩:=hl
  rw [Qf4] at h
  simp only [wpOps,hi]
  split at h
  ·rename_i hg
   rw [if_pos (Qhf hg λj want g _ _=>he.get g)]
   refine .inl ?_
   rw [Qa9 hI] at h
   simp only [Bd,Z7] at h
   obtain ⟨⟨v,S1⟩,h1,h2⟩:=h
   refine Qn6 hC hI o hN he h1 λcv M1 hst hN1 hr hlen=>?_
   exact Qgp hC hI rest l _ S1 _ M1 hl hN1 ((hst.env hN.ok he).put o.dst hr) h2 λa' M' hst' hN' he' hd hlen'=>hQ a' M' (hst.trans hst') hN' he' (by rw [hd,Qax]) (by omega)
  ·rename_i hg
   rw [if_neg (by rw [Qhf hg λj want g _ _=>he.get g];simp)]
   exact Qgp hC hI rest l _ S _ M hl hN (he.put o.dst (.imm (.tup #[] [] rfl (λj hj=>by simp at hj)))) h λa' M' hst' hN' he' hd hlen'=>hQ a' M' hst' hN' he' (by rw [hd,Qax]) hlen'
  ·simp at h
 |[],_::_,_,_,_,_,hl,_,_,_,_=>by simp at hl
 |_::_,[],_,_,_,_,hl,_,_,_,_=>by simp at hl
end
section
variable {P:Program} {C:Ctx} {a:Act} {M:Mem} {S:Store} {env:Env} {v:V} {S':Store} {I:InlP}
def Keeps (W:List Nat) (S S':Store):Prop:=S.length<=S'.length/\(∀id,id∉W->S'.getD id .dead=S.getD id .dead)/\(S.length<S'.length->S.length∈W)
theorem Keeps.refl {W:List Nat} {S:Store}:Keeps W S S:=⟨Z5 _,λ_ _=>rfl,λh=>absurd h (Nat.lt_irrefl _)⟩
theorem Keeps.push {W:List Nat} {S:Store} {b:Blk} (h:S.length∈W):Keeps W S (S++[b]):=
 ⟨by simp,λid hid=>by
  have:id≠S.length:=λe=>hid (e▸h)
  simp only [Zl]
  by_cases hlt:id<S.length
  ·rw [Z36 hlt]
  ·rw [Z9 (by simp;omega),Z9 (by omega)],λ_=>h⟩
theorem Keeps.set {W:List Nat} {S:Store} {i:Nat} {b:Blk} (h:i∈W):Keeps W S (S.set i b):=
 ⟨by simp,λid hid=>by
  have:i≠id:=λe=>hid (e▸h)
  simp only [Zl,List.getElem?_set_ne this],λh=>by simp at h⟩
theorem Qao {v' v:V} {S1 S':Store} (h:K0 v' S1=some (v,S')):S1=S':=by
 simp only [K0,Zs,Z3] at h;exact h.2
theorem Qn1 {C:Ctx} {t:Nat} {S:Store} {x v:V} {S':Store} (h:C.storeV t S x v some=some S'):Keeps (refs1 x) S S':=by
 unfold Ctx.storeV at h
 repeat' split at h
 all_goals first|(simp at h;done)|(simp only [Zs] at h;subst h;exact Keeps.set (by simp [refs1]))
theorem Qrx {C:Ctx} {t:Nat} {S:Store} {x y:V} {v:V} {S':Store} (h:C.appendV t S x y K0=some (v,S')):Keeps (refs1 x++[S.length]) S S':=by
 unfold Ctx.appendV at h
 repeat' split at h
 all_goals try (simp at h;done)
 ·obtain rfl:=Qao h;exact Keeps.set (by simp [refs1])
 ·obtain rfl:=Qao h;exact Keeps.push (by simp)
 ·cases hn:isNil x<;>rw [hn] at h<;>simp only [Zd,Zc] at h
  ·cases hc:isCons x<;>rw [hc] at h<;>simp only [Zd,Zc] at h
   ·simp at h
   ·obtain rfl:=Qao h;exact .refl
  ·obtain rfl:=Qao h;exact Keeps.push (by simp)
theorem Y9 {α:Type} {f:Option α} {g:α->V×Store} {v:V} {S':Store} (h:(f.bind λx=>K0 (g x).1 (g x).2)=some (v,S')):∃x,f=some x/\(g x).2=S':=by
 cases f with
 |none=>simp at h
 |some x=>exact ⟨x,rfl,Qao h⟩
theorem keeps_k0 {W:List Nat} {S S1 S':Store} {v' v:V} (h:K0 v' S1=some (v,S')) (hk:Keeps W S S1):Keeps W S S':=by
 obtain rfl:=Qao h;exact hk
theorem Qek (o:Oper) (h:C.evOp (I _) true o env S K0=some (v,S')) (hinl:isInl C o env=false):Keeps (opW C o env S) S S':=by
 obtain ⟨dst,op,type,pos,after,guard⟩:=o
 unfold Ctx.evOp at h
 cases op<;>simp only at h<;>try (simp at h;done)
 case move x=>exact keeps_k0 h .refl
 case assign x=>
  split at h
  ·rename_i hnil
   split at h
   ·simp at h
   ·exact keeps_k0 h (.push (by simp [opW,hnil]))
  ·exact keeps_k0 h .refl
 case pick c x y=>
  split at h
  case h_2=>simp at h
  split at h
  ·exact keeps_k0 h .refl
  ·rename_i b _ _ _ _
   cases b<;>exact keeps_k0 h .refl
 case alloc e=>
  split at h
  case h_2=>simp at h
  exact keeps_k0 h (.push (by simp [opW]))
 case box e x=>
  split at h
  case isFalse=>simp at h
  exact keeps_k0 h (.push (by simp [opW]))
 case build t parts=>
  split at h
  case h_2=>simp at h
  exact keeps_k0 h .refl
 case buildSlice t len parts=>
  split at h
  case isFalse=>simp at h
  split at h
  case h_2=>simp at h
  cases ho:C.ownD dst<;>rw [ho] at h
  ·exact keeps_k0 h .refl
  ·exact keeps_k0 h (.push (by simp [opW,ho]))
 case load t x=>
  rw [Qaw] at h
  obtain ⟨x,_,h⟩:=Y9 (g:=λv=>(v,S)) h
  obtain rfl:=h;exact .refl
 case store t x y=>
  rw [Qhc] at h
  obtain ⟨S1,h1,h⟩:=Y9 (g:=λs=>(.tup [],s)) h
  obtain rfl:=h
  have:=Qn1 h1
  exact ⟨this.1,λid hid=>this.2.1 id (by simpa [opW] using hid),λhl=>by simpa [opW] using this.2.2 hl⟩
 case nilCheck x=>
  repeat' split at h
  all_goals first|(simp at h;done)|exact keeps_k0 h .refl
 case binOp op t x y z=>
  rw [Qgz] at h
  obtain ⟨x,_,h⟩:=Y9 (g:=λv=>(v,S)) h
  obtain rfl:=h;exact .refl
 case unOp op t x=>
  repeat' split at h
  all_goals first|(simp at h;done)|exact keeps_k0 h .refl
 case convert src dst' x=>
  unfold Ctx.convertV at h
  split at h
  case h_1=>exact keeps_k0 h .refl
  case h_2=>exact keeps_k0 h .refl
  case h_3=>exact keeps_k0 h .refl
  case h_4=>
   rename_i hd _
   repeat' split at h
   all_goals first|(simp at h;done)|exact keeps_k0 h (.push (by simp [opW,hd]))
  case h_5=>
   rename_i hd he
   repeat' split at h
   all_goals first|(simp at h;done)|exact keeps_k0 h (.set (by simp [opW,hd,he,refs1]))
  case h_6=>
   repeat' split at h
   all_goals first|(simp at h;done)|exact keeps_k0 h .refl
  case h_7=>simp at h
 case makeFunc fn first captured=>
  repeat' split at h
  all_goals first|(simp at h;done)|exact keeps_k0 h .refl
 case makeInterface t x=>
  repeat' split at h
  all_goals first|(simp at h;done)|exact keeps_k0 h .refl
 case makeSlice t l c=>
  unfold Ctx.makeSliceV at h
  repeat' split at h
  all_goals first|(simp at h;done)|exact keeps_k0 h (.push (by simp [opW]))
 case slice t x lo hi mx=>
  split at h
  ·split at h
   ·rw [Qhx] at h
    obtain ⟨x,_,h⟩:=Y9 (g:=λv=>(v,S)) h
    obtain rfl:=h;exact .refl
   ·simp at h
  ·rw [Qgy] at h
   obtain ⟨x,_,h⟩:=Y9 (g:=λv=>(v,S)) h
   obtain rfl:=h;exact .refl
 case fieldAddr t x f=>
  repeat' split at h
  all_goals first|(simp at h;done)|exact keeps_k0 h .refl
 case field t x f=>
  repeat' split at h
  all_goals first|(simp at h;done)|exact keeps_k0 h .refl
 case indexAddr t x ix=>
  rw [Qfp] at h
  obtain ⟨x,_,h⟩:=Y9 (g:=λv=>(v,S)) h
  obtain rfl:=h;exact .refl
 case index t x ix=>
  repeat' split at h
  all_goals first|(simp at h;done)|exact keeps_k0 h .refl|skip
  rw [Qa2] at h
  obtain ⟨x,_,h⟩:=Y9 (g:=λv=>(v,S)) h
  obtain rfl:=h;exact .refl
 case range t x=>
  repeat' split at h
  all_goals first|(simp at h;done)|exact keeps_k0 h (.push (by simp [opW]))
 case next it b=>
  cases b<;>simp only at h<;>try (simp at h;done)
  split at h
  case h_2=>simp at h
  rename_i id he
  repeat' split at h
  all_goals first|(simp at h;done)|exact keeps_k0 h (.set (by simp [opW,he,refs1]))|exact keeps_k0 h .refl
 case extract x i=>
  repeat' split at h
  all_goals first|(simp at h;done)|exact keeps_k0 h .refl
 case call c=>
  cases hcal:c.callee with
  |
   invoke r m=>
   simp only [hcal] at h
   unfold Ctx.invokeV at h
   repeat' split at h
   all_goals try (simp at h;done)
   rename_i p _ _
   obtain ⟨x,_,h⟩:=Y9 (g:=λr=>(p.enc r,S)) h
   obtain rfl:=h;exact .refl
  |
   value f=>
   simp only [hcal] at h
   unfold Ctx.callV at h
   split at h
   case h_2=>simp at h
   rename_i g caps hfv
   have hng:C.inPl g=none:=by
    simp only [isInl,hcal,hfv] at hinl
    simpa using hinl
   simp only [hng] at h
   cases hclone:C.clone g with
   |
    some e=>
    simp only [hclone] at h
    repeat' split at h
    all_goals first|(simp at h;done)|exact keeps_k0 h (.push (by simp [opW,hcal,hfv,hclone]))
   |
    none=>
    simp only [hclone] at h
    split at h
    case h_2=>simp at h
    split at h
    case isFalse=>simp at h
    rename_i p hp hc
    simp only [Zn,Z89,Z4] at hc
    rw [Qfx hc.1] at h
    obtain ⟨x,_,h⟩:=Y9 (g:=λr=>(p.enc r,S)) h
    obtain rfl:=h;exact .refl
  |
   builtin b=>
   simp only [hcal] at h
   split at h
   ·repeat' split at h
    all_goals first|(simp at h;done)|exact keeps_k0 h .refl
   ·rename_i t u x y ht hargs
    by_cases hkd:C.keepD dst=true
    ·simp only [hkd,Zd] at h
     split at h
     case h_2=>simp at h
     split at h
     ·simp at h
     unfold Ctx.appendX at h
     cases hex:isExact x<;>rw [hex] at h<;>simp only [Zd,Zc] at h<;>(repeat' split at h)
     all_goals first|(simp at h;done)|exact keeps_k0 h .refl
    have hkd:C.keepD dst=false:=by simpa using hkd
    simp only [hkd,Zc] at h
    have key:∀{y':V},C.appendV t S (Y3 x) y' K0=some (v,S')->Keeps (opW C {dst:=dst,op:=Op.call c,type:=type,pos:=pos,after:=after,guard:=guard} env S) S S':=λ{y'} h=>by
     have hk:=Qrx h
     rw [Qfm] at hk
     have hin:∀id,id∈refs1 x++[S.length]->id∈opW C {dst:=dst,op:=Op.call c,type:=type,pos:=pos,after:=after,guard:=guard} env S:=λid hm=>by
      simp only [opW,hcal,hargs,Z83,Z32] at hm ⊢
      rcases hm with h1|h1
      ·exact .inl (.inl h1)
      ·exact .inr h1
     exact ⟨hk.1,λid hid=>hk.2.1 id λhm=>hid (hin id hm),λhl=>hin _ (hk.2.2 hl)⟩
    split at h
    ·exact key h
    ·split at h
     ·exact key h
     ·simp at h
    ·simp at h
   ·unfold maxV at h
    split at h
    case h_2=>simp at h
    exact keeps_k0 h .refl
   ·unfold minV at h
    split at h
    case h_2=>simp at h
    exact keeps_k0 h .refl
   ·rename_i t u x y ht hargs
    unfold Ctx.copyV at h
    repeat' split at h
    all_goals first|(simp at h;done)|exact keeps_k0 h (.set (by simp only [opW,hcal,hargs];simp [refs1]))
   ·repeat' split at h
    all_goals first|(simp at h;done)|exact keeps_k0 h .refl
   ·rename_i t u x y ht hargs
    split at h
    case h_3=>simp at h
    case h_2=>
     repeat' split at h
     all_goals first|(simp at h;done)|exact keeps_k0 h .refl
    rename_i bid ver n
    repeat' split at h
    all_goals first|(simp at h;done)|exact keeps_k0 h (.set (by simp only [opW,hcal,hargs];simp [refs1]))
   ·simp at h
theorem Qfl {a b:Nat}:Nat.blt a b=true↔a<b:=by rw [Nat.blt_eq]
abbrev Ent:=List Nat×List Nat×Bool
def accK (ac:Nat->Ent) (acc:List Ent):Nat->List Ent
 |0=>acc
 |k+1=>ac k::accK ac acc k
theorem Qk9 {ac ac':Nat->Ent} {e:Ent} {acc:List Ent} (h0:ac 0=e) (h:∀k,ac (k+1)=ac' k):∀k,accK ac acc (k+1)=accK ac' (e::acc) k
 |0=>by simp [accK,h0]
 |k+1=>by rw [accK,Qk9 h0 h k,h];rfl
structure Qeo (C:Ctx) (I:InlP) (ops:Array Oper) (A:Plan) (o:Oper) (env:Env) (S:Store) (env1:Env) (S1:Store) (i:Nat) (acc:List Ent) (e:Ent):Prop where
 conf:confOK (pA A i) i acc (opR C o env) (opW C o env S) (isInl C o env)=true
 way:(guardV ops o env=some true/\(∃v,C.evOp (I _) true o env S K0=some (v,S1)/\env1=put env o.dst v)/\e=(opR C o env,opW C o env S,isInl C o env)) \/
  (guardV ops o env=some false/\S1=S/\env1=put env o.dst (.tup [])/\e=([],[],false))
theorem Qhq {R:Type} (I:Inl R) (ops:Array Oper) (A:Plan) (o:Oper) (rest:List Oper) (i:Nat) (acc:List Ent) (env:Env) (S:Store) (K:Env->Store->Option R) :
  C.evOpsD I ops A (o::rest) i acc env S K=if confOK (pA A i) i acc (opR C o env) (opW C o env S) (isInl C o env) then (match guardV ops o env with
   |some true=>C.evOp I true o env S λv S'=>C.evOpsD I ops A rest (i+1) ((opR C o env,opW C o env S,isInl C o env)::acc) (put env o.dst v) S' K
   |some false=>C.evOpsD I ops A rest (i+1) (([],[],false)::acc) (put env o.dst (.tup [])) S K
   |none=>none) else none:=by
 cases hg:o.guard with
 |none=>simp only [Ctx.evOpsD,guardV,hg]
 |
  some p=>
  obtain ⟨j,want⟩:=p
  cases hs:guardSlot ops j with
  |none=>simp only [Ctx.evOpsD,guardV,hg,hs]
  |
   some g=>
   cases hb:env.getD g .undef<;>try (simp only [Ctx.evOpsD,guardV,hg,hs,hb];done)
   ·rename_i b'
    have hset:=Qmc hb (by simp)
    cases b'<;>cases want<;>simp only [Ctx.evOpsD,guardV,hg,hs,hb,Zd,Zc,hset]<;>rfl
   ·rename_i vs
    cases vs<;>simp only [Ctx.evOpsD,guardV,hg,hs,hb]
theorem Qce {P:Program} (hI:InlOK P C I) {R:Type} (ops:Array Oper) (A:Plan):∀(rest:List Oper) (i:Nat) (acc:List Ent) (env:Env) (S:Store) (K:Env->Store->Option R),
  C.evOpsD (I R) ops A rest i acc env S K=(C.evOpsD (I (Env×Store)) ops A rest i acc env S λe s=>some (e,s)).bind λp=>K p.1 p.2
 |[],i,acc,env,S,K=>rfl
 |
  o::rest,i,acc,env,S,K=>by
  rw [Qhq,Qhq]
  split
  case isFalse=>rfl
  split
  ·rw [Qa9 hI true o env S,Qa9 hI true o env S (λv S'=>C.evOpsD (I (Env×Store)) ops A rest (i+1) ((opR C o env,opW C o env S,isInl C o env)::acc) (put env o.dst v) S' λe s=>some (e,s))]
   cases C.evOp (I (V×Store)) true o env S K0 with
   |none=>rfl
   |some p=>exact Qce hI ops A rest _ _ _ _ K
  ·exact Qce hI ops A rest _ _ _ _ K
  ·rfl
theorem Qlv {P:Program} (hI:InlOK P C I) {ops:Array Oper} {A:Plan} {env':Env} {S':Store}:∀(rest:List Oper) (i:Nat) (acc:List Ent) (env:Env) (S:Store),
  C.evOpsD (I (Env×Store)) ops A rest i acc env S (λe s=>some (e,s))=some (env',S') ->
  ∃
   (E:Nat->Env) (T:Nat->Store) (ac:Nat->Ent),E 0=env/\T 0=S/\E rest.length=env'/\T rest.length=S' /\
   ∀k o,rest[k]? = some o->Qeo C I ops A o (E k) (T k) (E (k+1)) (T (k+1)) (i+k) (accK ac acc k) (ac k)
 |
  [],i,acc,env,S,h=>by
  simp only [Ctx.evOpsD,Zs,Z3] at h
  obtain ⟨rfl,rfl⟩:=h
  exact ⟨λ_=>env,λ_=>S,λ_=>([],[],false),rfl,rfl,rfl,rfl,λk o h=>by simp at h⟩
 |
  o::rest,i,acc,env,S,h=>by
  rw [Qhq] at h
  split at h
  case isFalse=>simp at h
  rename_i hconf
  have key:∀(env1:Env) (S1:Store) (e:Ent),C.evOpsD (I (Env×Store)) ops A rest (i+1) (e::acc) env1 S1 (λe s=>some (e,s))=some (env',S') ->
    Qeo C I ops A o env S env1 S1 i acc e->∃(E:Nat->Env) (T:Nat->Store) (ac:Nat->Ent),E 0=env/\T 0=S/\E (o::rest).length=env'/\T (o::rest).length=S' /\
   ∀k o',(o::rest)[k]? = some o'->Qeo C I ops A o' (E k) (T k) (E (k+1)) (T (k+1)) (i+k) (accK ac acc k) (ac k):=by
   intro env1 S1 e h1 hs
   obtain ⟨E,T,ac,h2,h3,h4,h5,h6⟩:=Qlv hI rest _ _ _ _ h1
   refine ⟨fun|0=>env|k+1=>E k,fun|0=>S|k+1=>T k,fun|0=>e|k+1=>ac k,rfl,rfl,h4,h5,λk o' hk=>?_⟩
   cases k with
   |
    zero=>
    simp only [Z51,Zs] at hk
    subst hk
    simpa [h2,h3,accK] using hs
   |
    succ k=>
    have:=h6 k o' (by simpa using hk)
    rw [Qk9 (ac':=ac) (e:=e) rfl (λ_=>rfl)]
    rw [show i+(k+1)=i+1+k by omega]
    exact this
  split at h
  ·rename_i hg
   rw [Qa9 hI] at h
   simp only [Bd,Z7] at h
   obtain ⟨⟨v,S1⟩,h1,h2⟩:=h
   exact key _ _ _ h2 ⟨hconf,.inl ⟨hg,⟨v,h1,rfl⟩,rfl⟩⟩
  ·rename_i hg
   exact key _ _ _ h ⟨hconf,.inr ⟨hg,rfl,rfl,rfl⟩⟩
  ·simp at h
theorem Qhh (m n:Nat):tb m n=m.testBit n:=by
 rw [Nat.testBit_eq_decide_div_mod_eq]
 unfold tb
 have h1:Nat.land (Nat.shiftRight m n) 1=m/2^n%2:=by
  show (m >>> n) &&& 1=_
  rw [Nat.and_one_is_mod,Nat.shiftRight_eq_div_pow]
 rw [h1]
 by_cases h:m/2^n%2=1
 ·rw [h];rfl
 ·have:m/2^n%2=0:=by omega
  rw [this];rfl
theorem Qcd (a b n:Nat):tb (Nat.lor a b) n=(tb a n||tb b n):=by
 simp only [Qhh];exact Nat.testBit_or a b n
theorem Qep (q n:Nat):tb (Nat.shiftLeft 1 q) n=decide (q=n):=by
 rw [Qhh]
 show (1 <<< q).testBit n=_
 rw [Nat.one_shiftLeft,Nat.testBit_two_pow]
theorem Qwd (n:Nat):tb 0 n=false:=by rw [Qhh,Nat.zero_testBit]
theorem Qgs (pl:Plan) {q:Nat}:∀(l:List Edge),tb (ancM pl l) q=true->∃e∈l,Region.binds .any e=true/\(q=e.on\/tb (pA pl e.on) q=true)
 |[],h=>by rw [ancM,Qwd] at h;simp at h
 |
  e::r,h=>by
  rw [ancM] at h
  cases hb:Region.binds .any e with
  |
   false=>
   rw [hb] at h
   obtain ⟨e',h1,h2⟩:=Qgs pl r h
   exact ⟨e',by simp [h1],h2⟩
  |
   true=>
   rw [hb] at h
   simp only [Zd,Qcd,Qep,Z64,decide_eq_true_eq] at h
   rcases h with (h|h)|h
   ·exact ⟨e,by simp,hb,.inl h.symm⟩
   ·exact ⟨e,by simp,hb,.inr h⟩
   ·obtain ⟨e',h1,h2⟩:=Qgs pl r h
    exact ⟨e',by simp [h1],h2⟩
theorem Qgl {D:Nat}:∀(rs:List RowP) (seen:Nat),Qa4 rs seen D=true->(∀d,tb seen d=true->tb D d=true)/\∀(p:Nat) (r:RowP) (d:Nat),rs[p]? = some r->r.1=d+1->tb D d=true/\tb seen d=false/\∀(p':Nat) (r':RowP),rs[p']? = some r'->r'.1=d+1->p=p'
 |
  [],seen,h=>by
  have:seen=D:=Z68 h
  subst this
  exact ⟨λd h=>h,λp r d h=>by simp at h⟩
 |
  r0::rs,seen,h=>by
  unfold Qa4 at h
  split at h
  ·rename_i h0
   obtain ⟨h1,h2⟩:=Qgl rs seen h
   refine ⟨h1,λp r d hp hr=>?_⟩
   cases p with
   |zero=>simp only [Z51,Zs] at hp;subst hp;omega
   |
    succ p=>
    obtain ⟨h3,h4,h5⟩:=h2 p r d (by simpa using hp) hr
    refine ⟨h3,h4,λp' r' hp' hr'=>?_⟩
    cases p' with
    |zero=>simp only [Z51,Zs] at hp';subst hp';omega
    |succ p'=>rw [h5 p' r' (by simpa using hp') hr']
  ·rename_i d0 h0
   simp only [Z4,Z53] at h
   obtain ⟨hn,h⟩:=h
   obtain ⟨h1,h2⟩:=Qgl rs _ h
   have hin:tb D d0=true:=h1 d0 (by rw [Qcd,Qep];simp)
   refine ⟨λd hd=>h1 d (by rw [Qcd,hd];rfl),λp r d hp hr=>?_⟩
   cases p with
   |
    zero=>
    simp only [Z51,Zs] at hp;subst hp
    have:d=d0:=by omega
    subst this
    refine ⟨hin,hn,λp' r' hp' hr'=>?_⟩
    cases p' with
    |zero=>rfl
    |
     succ p'=>
     have:=(h2 p' r' d (by simpa using hp') hr').2.1
     rw [Qcd,Qep] at this;simp at this
   |
    succ p=>
    obtain ⟨h3,h4,h5⟩:=h2 p r d (by simpa using hp) hr
    rw [Qcd,Qep] at h4
    simp only [Bool.or_eq_false_iff,decide_eq_false_iff_not] at h4
    refine ⟨h3,h4.1,λp' r' hp' hr'=>?_⟩
    cases p' with
    |
     zero=>
     simp only [Z51,Zs] at hp';subst hp'
     exact (h4.2 (by omega)).elim
    |succ p'=>rw [h5 p' r' (by simpa using hp') hr']
theorem Qlx {ops:Array Oper} {pl:Plan}:∀(os:List Oper) (rs:List RowP) (i:Nat),Qcc ops pl i os rs=true->∀k o,os[k]? = some o->∃r,rs[k]? = some r/\Qab ops pl (i+k) o r=true
 |[],[],i,h=>λk o hk=>by simp at hk
 |
  o0::os,r0::rs,i,h=>λk o hk=>by
  simp only [Qcc,Z4] at h
  cases k with
  |zero=>simp only [Z51,Zs] at hk;subst hk;exact ⟨r0,rfl,h.1⟩
  |
   succ k=>
   obtain ⟨r,h1,h2⟩:=Qlx os rs (i+1) h.2 k o (by simpa using hk)
   exact ⟨r,by simpa using h1,by rw [show i+(k+1)=i+1+k by omega];exact h2⟩
 |[],_::_,i,h=>λk o hk=>by simp at hk
 |_::_,[],i,h=>by simp [Qcc] at h
theorem Qfr {ops:Array Oper} {pl:Plan} (h:Y7 ops pl=true) {i:Nat} {oi:Oper} (hi:ops[i]? = some oi):∃r,pl.1[i]? = some r/\Qab ops pl i oi r=true:=by
 simp only [Y7,Z4] at h
 obtain ⟨r,h1,h2⟩:=Qlx _ _ 0 h.1 i oi (by simpa using hi)
 exact ⟨r,h1,by simpa using h2⟩
theorem Qjs {ops:Array Oper} {pl:Plan} {i:Nat} {o:Oper} {r:RowP} (h:Qab ops pl i o r=true) {d:Nat} (hd:o.dst=some d):r.1=d+1:=by
 simp only [Qab,hd,Z4] at h
 exact Z68 h.1.1.2
theorem planOK_spec {ops:Array Oper} {pl:Plan} (h:Y7 ops pl=true) {i:Nat} {oi:Oper} (hi:ops[i]? = some oi) :
  (∀e∈oi.after,Region.binds .any e=true->e.on<i)/\∀q oq d,ops[q]? = some oq->oq.dst=some d->(d∈oi.looksAt ops->(q<i/\tb (pA pl i) q=true)\/i=q\/(i<q/\tb (pA pl q) i=true))/\(i=q\/oi.dst≠some d):=by
 obtain ⟨r,hr,hrow⟩:=Qfr h hi
 have hds:Qa4 pl.1 0 pl.2=true:=by simp only [Y7,Z4] at h;exact h.2
 have hrow':=hrow
 simp only [Qab,Z4,Z14] at hrow
 obtain ⟨⟨⟨⟨h1,h2⟩,h3⟩,h4⟩,h5⟩:=hrow
 have hpA:pA pl i=r.2.2:=by simp [pA,Zl,hr]
 refine ⟨λe he hb=>?_,λq oq d hq hd=>?_⟩
 ·have:=h2 e (by simpa using he)
  simp only [hb,Zn,Z89] at this
  exact Qfl.1 this
 ·obtain ⟨rq,hrq,hrowq⟩:=Qfr h hq
  have hrd:=Qjs hrowq hd
  obtain ⟨hD,_,huniq⟩:=(Qgl pl.1 0 hds).2 q rq d hrq hrd
  refine ⟨λhl=>?_,?_⟩
  ·have:=h4 d (by simpa using hl)
   simp only [List.any_eq_true] at this
   obtain ⟨tq,htq,hb⟩:=this
   have ht:tq.1=d:=Z68 hb
   have h6:=h5 tq htq
   split at h6
   ·rw [ht,hD] at h6;simp at h6
   ·rename_i q' hq'
    simp only [Z4,Z64] at h6
    obtain ⟨h7,h8⟩:=h6
    have h7:=Z68 h7
    have hq'':q=q':=by
     rw [Zl] at h7
     cases hg:pl.1[q']? with
     |none=>rw [hg] at h7;simp at h7
     |some r'=>rw [hg] at h7;exact huniq q' r' hg (by simpa [ht] using h7)
    subst hq''
    rcases h8 with (h8|h8)|h8
    ·exact .inr (.inl (Z68 h8).symm)
    ·exact .inl ⟨Qfl.1 h8.1,by rw [hpA];exact h8.2⟩
    ·exact .inr (.inr ⟨Qfl.1 h8.1,h8.2⟩)
  ·by_cases hdi:oi.dst=some d
   ·left
    exact (huniq i r hr (Qjs hrow' hdi)).symm
   ·exact .inr hdi
theorem Qk7 {ops:Array Oper} {pl:Plan} (hs:Y7 ops pl=true) {L:Nat->Prop} (down:∀j oj,ops[j]? = some oj->L j->∀e∈oj.after,Region.binds .any e=true->L e.on) :
  ∀(i:Nat) (oi:Oper),ops[i]? = some oi->(∀e∈oi.after,Region.binds .any e=true->L e.on)->∀q,tb (pA pl i) q=true->L q:=by
 intro i
 induction i using Nat.strongRecOn with
 |
  _ i ih=>
  intro oi hi hall q hq
  obtain ⟨r,hr,hrow⟩:=Qfr hs hi
  have hpA:pA pl i=r.2.2:=by simp [pA,Zl,hr]
  simp only [Qab,Z4] at hrow
  have he:=Z68 hrow.1.1.1.1
  rw [hpA,he] at hq
  obtain ⟨e,he,hb,hq⟩:=Qgs pl _ hq
  have he:e∈oi.after:=by simpa using he
  rcases hq with rfl|hq
  ·exact hall e he hb
  ·have hlt:=(planOK_spec hs hi).1 e he hb
   have hsz:i<ops.size:=by
    by_cases h:i<ops.size
    ·exact h
    ·rw [Array.getElem?_eq_none (by omega)] at hi;simp at hi
   have ho:ops[e.on]? = some (ops[e.on]'(by omega)):=by rw [Z24]
   exact ih e.on hlt _ ho (down _ _ ho (hall e he hb)) q hq
theorem Qme {anc:Nat} {ac:Nat->Ent} {rd wr:List Nat} {bar:Bool}:∀(k:Nat),confOK anc k (accK ac [] k) rd wr bar=true->∀{q:Nat},q<k ->
  tb anc q=true\/(rd=[]/\wr=[]/\bar=false)\/((ac q).1=[]/\(ac q).2.1=[]/\(ac q).2.2=false)\/(bar=false/\(ac q).2.2=false/\(∀id∈wr,id∉(ac q).1)/\(∀id∈wr,id∉(ac q).2.1)/\∀id∈rd,id∉(ac q).2.1)
 |0,h,q,hq=>by omega
 |
  k+1,h,q,hq=>by
  simp only [accK,confOK,Z4] at h
  by_cases e:q=k
  ·subst e
   have:=h.1
   simp only [Qga,Z64,Z4,Z53,disj,Z14,List.contains_eq_mem,decide_eq_false_iff_not,List.isEmpty_iff] at this
   rcases this with h1|h1|h1|h1
   ·exact .inl h1
   ·exact .inr (.inl ⟨h1.1.1,h1.1.2,h1.2⟩)
   ·exact .inr (.inr (.inl ⟨h1.1.1,h1.1.2,h1.2⟩))
   ·obtain ⟨⟨⟨⟨h1,h2⟩,h3⟩,h4⟩,h5⟩:=h1
    exact .inr (.inr (.inr ⟨h1,h2,h3,h4,h5⟩))
  ·exact Qme k h.2 (by omega)
end
end Go.Proofs.YtjfipepaaddlmaaGreatDoor.A
end
section
set_option linter.unusedSectionVars false
namespace Go.Proofs.YtjfipepaaddlmaaGreatDoor.A
open Go Go.RowKit
theorem put_get_ne {env:Env} {dst:Option Nat} {v:V} {t:Nat} (h:dst≠some t):(put env dst v).getD t .undef=env.getD t .undef:=by
 cases dst with
 |none=>rfl
 |
  some d=>
  have:d≠t:=λe=>h (by rw [e])
  simp only [put,Zl,List.getElem?_set_ne this]
theorem Qi9 {env:Env} {d:Nat} {v:V} (h:d<env.length):(put env (some d) v).getD d .undef=v:=by
 simp [put,Zl,h]
theorem put_len {env:Env} {dst:Option Nat} {v:V}:(put env dst v).length=env.length:=by cases dst<;>simp [put]
section
variable {P:Program} {C:Ctx} {I:InlP} {ops:Array Oper} {pl:Plan} {E:Nat->Env} {T:Nat->Store} {ac:Nat->Ent} {a0:Act} {M0:Mem}
abbrev RunV (C:Ctx) (I:InlP) (ops:Array Oper) (pl:Plan) (E:Nat->Env) (T:Nat->Store) (ac:Nat->Ent):Prop:=
 ∀k o,ops[k]? = some o->Qeo C I ops pl o (E k) (T k) (E (k+1)) (T (k+1)) k (accK ac [] k) (ac k)
def Wr (ac:Nat->Ent) (q id:Nat):Prop:=id∈(ac q).2.1\/(ac q).2.2=true
def Qag (e:Ent):Prop:=e.1=[]/\e.2.1=[]/\e.2.2=false
theorem J3 {q id:Nat} (h:Qag (ac q)):¬Wr ac q id:=λhw=>by
 rcases hw with hw|hw
 ·rw [h.2.1] at hw;simp at hw
 ·rw [h.2.2] at hw;simp at hw
structure Inv (ops:Array Oper) (E:Nat->Env) (T:Nat->Store) (ac:Nat->Ent) (a0:Act) (M0:Mem) (L:Nat->Prop) (a:Act) (M:Mem):Prop where
 down:∀j oj,ops[j]? = some oj->L j->∀e∈oj.after,Region.binds .any e=true->L e.on
 ok:M.ok
 step:Step M0 M
 defs:a.defers=a0.defers
 size:a.tmps.size=(E 0).length
 slot:∀t,t<(E 0).length->(∀q oq,ops[q]? = some oq->oq.dst=some t->L q)->Rep M (a.tmps.getD t Go.undef) ((E ops.size).getD t .undef)
 slot0:∀t,t<(E 0).length->(∀q oq,ops[q]? = some oq->oq.dst=some t->¬L q)->Rep M (a.tmps.getD t Go.undef) ((E 0).getD t .undef)
 store:∀id j,j<=ops.size->(∀q,q<j->Wr ac q id->L q)->(∀q,j<=q->q<ops.size->Wr ac q id->¬L q)->M.S id=(T j).getD id .dead
 alloc:∀id,(M.μ id).isSome=true->id<(T 0).length\/∃q,q<ops.size/\L q/\(T q).length<=id/\id<(T (q+1)).length
 mono:∀q,q<ops.size->L q->(T q).length<=(T (q+1)).length
variable (hr:RunV C I ops pl E T ac)
include hr
theorem Qap:∀k,k<=ops.size->(E k).length=(E 0).length
 |0,_=>rfl
 |
  k+1,h=>by
  have hk:ops[k]? = some (ops[k]'(by omega)):=Z24 (by omega)
  rw [<-Qap k (by omega)]
  rcases (hr k _ hk).way with ⟨_,⟨v,_,e⟩,_⟩|⟨_,_,e,_⟩<;>rw [e,put_len]
theorem Qdm {t i:Nat}:∀k,i<=k->k<=ops.size->(∀q oq,i<=q->q<k->ops[q]? = some oq->oq.dst≠some t)->(E k).getD t .undef=(E i).getD t .undef:=by
 intro k
 induction k with
 |zero=>
      intro h _ _;have:i=0:=by omega
      subst this;rfl
 |
  succ k ih=>
  intro h h2 h3
  by_cases e:i=k+1
  ·subst e;rfl
  ·rw [<-ih (by omega) (by omega) λq oq h4 h5=>h3 q oq h4 (by omega)]
   have hk:ops[k]? = some (ops[k]'(by omega)):=Z24 (by omega)
   have hne:=h3 k _ (by omega) (by omega) hk
   rcases (hr k _ hk).way with ⟨_,⟨v,_,e⟩,_⟩|⟨_,_,e,_⟩<;>rw [e,put_get_ne hne]
theorem Qt3 {k:Nat} (hk:k<ops.size) {id:Nat} (hw:¬Wr ac k id):(T (k+1)).getD id .dead=(T k).getD id .dead:=by
 have hk':ops[k]? = some (ops[k]'(by omega)):=Z24 (by omega)
 rcases (hr k _ hk').way with ⟨_,⟨v,h1,_⟩,e⟩|⟨_,e,_,_⟩
 ·rw [Wr,e] at hw
  simp only [not_or,Bool.not_eq_true] at hw
  exact (Qek _ h1 hw.2).2.1 id hw.1
 ·rw [e]
theorem Qhm {id i:Nat}:∀k,i<=k->k<=ops.size->(∀q,i<=q->q<k->¬Wr ac q id)->(T k).getD id .dead=(T i).getD id .dead:=by
 intro k
 induction k with
 |zero=>
      intro h _ _;have:i=0:=by omega
      subst this;rfl
 |
  succ k ih=>
  intro h h2 h3
  by_cases e:i=k+1
  ·subst e;rfl
  ·rw [Qt3 hr (by omega) (h3 k (by omega) (by omega)),ih (by omega) (by omega) λq h4 h5=>h3 q h4 (by omega)]
theorem Qp6 {k:Nat} (hk:k<ops.size) (hb:(ac k).2.2=false):(T k).length<=(T (k+1)).length:=by
 have hk':ops[k]? = some (ops[k]'(by omega)):=Z24 (by omega)
 rcases (hr k _ hk').way with ⟨_,⟨v,h1,_⟩,e⟩|⟨_,e,_,_⟩
 ·rw [e] at hb;exact (Qek _ h1 hb).1
 ·rw [e];exact Z5 _
theorem Qd8 {k:Nat} (hk:k<ops.size) (h:(T k).length<(T (k+1)).length):¬Qag (ac k):=λhp=>by
 have hk':ops[k]? = some (ops[k]'(by omega)):=Z24 (by omega)
 rcases (hr k _ hk').way with ⟨_,⟨v,h1,_⟩,e⟩|⟨_,e,_,_⟩
 ·rw [e] at hp
  obtain ⟨_,h3,h4⟩:=hp
  simp only at h3 h4
  have:=(Qek _ h1 h4).2.2 h
  rw [h3] at this;simp at this
 ·rw [e] at h;omega
theorem Jy {L:Nat->Prop} {a:Act} {M:Mem} (hI:Inv ops E T ac a0 M0 L a M) {i:Nat}:∀k,i<=k->k<=ops.size->(∀q,i<=q->q<k->(ac q).2.2=true->L q)->(T i).length<=(T k).length:=by
 intro k
 induction k with
 |zero=>
      intro h _ _;have:i=0:=by omega
      subst this;exact Z5 _
 |
  succ k ih=>
  intro h h2 h3
  by_cases e:i=k+1
  ·subst e;exact Z5 _
  ·refine Z46 (ih (by omega) (by omega) λq h4 h5=>h3 q h4 (by omega)) ?_
   cases hb:(ac k).2.2 with
   |false=>exact Qp6 hr (by omega) hb
   |true=>exact hI.mono k (by omega) (h3 k (by omega) (by omega) hb)
variable (hs:Y7 ops pl=true)
include hs
structure Turn (ops:Array Oper) (L:Nat->Prop) (i:Nat) (o:Oper):Prop where
 get:ops[i]? = some o
 un:¬L i
 all:∀e∈o.after,Region.binds .any e=true->L e.on
omit hr hs in
theorem Turn.lt {L:Nat->Prop} {i:Nat} {o:Oper} (h:Turn ops L i o):i<ops.size:=by
 by_cases hlt:i<ops.size
 ·exact hlt
 ·have:=h.get;rw [Array.getElem?_eq_none (by omega)] at this;simp at this
theorem run_conf {k q:Nat} (hk:k<ops.size) (hq:q<k):tb (pA pl k) q=true\/Qag (ac k)\/Qag (ac q)\/((ac k).2.2=false/\(ac q).2.2=false/\(∀id∈(ac k).2.1,id∉(ac q).1)/\(∀id∈(ac k).2.1,id∉(ac q).2.1)/\∀id∈(ac k).1,id∉(ac q).2.1):=by
 have hk':ops[k]? = some (ops[k]'(by omega)):=Z24 (by omega)
 have hst:=hr k _ hk'
 have h1:=Qme k hst.conf hq
 rcases hst.way with ⟨_,_,e⟩|⟨_,_,_,e⟩
 ·rcases h1 with h1|h1|h1|h1
  ·exact .inl h1
  ·exact .inr (.inl (by rw [e];exact h1))
  ·exact .inr (.inr (.inl h1))
  ·exact .inr (.inr (.inr (by rw [e];exact h1)))
 ·exact .inr (.inl (by rw [e];exact ⟨rfl,rfl,rfl⟩))
theorem Qe7 {L:Nat->Prop} {a:Act} {M:Mem} (hI:Inv ops E T ac a0 M0 L a M) {k q:Nat} (hk:k<ops.size) (hL:L k) (hq:tb (pA pl k) q=true):L q:=by
 have hk':ops[k]? = some (ops[k]'(by omega)):=Z24 (by omega)
 exact Qk7 hs hI.down k _ hk' (hI.down k _ hk' hL) q hq
theorem Qcm {L:Nat->Prop} {a:Act} {M:Mem} (hI:Inv ops E T ac a0 M0 L a M) {i:Nat} {o:Oper} (ht:Turn ops L i o) {q:Nat} (hq:tb (pA pl i) q=true):L q:=
 Qk7 hs hI.down i o ht.get ht.all q hq
theorem Qey {L:Nat->Prop} {a:Act} {M:Mem} (hI:Inv ops E T ac a0 M0 L a M) {i:Nat} {o:Oper} (ht:Turn ops L i o) {q:Nat} (hq:i<q) (hq2:q<ops.size) (hL:L q):¬tb (pA pl q) i=true:=λh=>ht.un (Qe7 hr hs hI hq2 hL h)
theorem Qlb {L:Nat->Prop} {a:Act} {M:Mem} (hI:Inv ops E T ac a0 M0 L a M) {i:Nat} {o:Oper} (ht:Turn ops L i o) {t:Nat} (hl:t∈o.looksAt ops):Rep M (a.tmps.getD t Go.undef) ((E i).getD t .undef):=by
 by_cases hlt:t<(E 0).length
 ·by_cases hw:∃q0 oq0,ops[q0]? = some oq0/\oq0.dst=some t/\i<=q0
  ·obtain ⟨q0,oq0,hq0,hd0,hle⟩:=hw
   have huniq:∀q oq,ops[q]? = some oq->oq.dst=some t->q=q0:=λq oq hq hd=>by
    rcases ((planOK_spec hs hq).2 q0 oq0 t hq0 hd0).2 with h|h
    ·exact h
    ·exact (h hd).elim
   rw [Qdm hr i (i:=0) (Z60 _) (Z69 ht.lt) λq oq _ hq2 hq hd=>by have:=huniq q oq hq hd;omega]
   refine hI.slot0 t hlt λq oq hq hd hL=>?_
   obtain rfl:=huniq q oq hq hd
   rcases ((planOK_spec hs ht.get).2 q oq t hq hd).1 hl with h|h|h
   ·omega
   ·subst h;exact ht.un hL
   ·exact ht.un (Qe7 hr hs hI (Z72.1 hq).1 hL h.2)
  ·rw [<-Qdm hr ops.size (Z69 ht.lt) (Z5 _) λq oq h1 _ hq hd=>hw ⟨q,oq,hq,hd,h1⟩]
   exact hI.slot t hlt λq oq hq hd=>by
    rcases ((planOK_spec hs ht.get).2 q oq t hq hd).1 hl with h|h|h
    ·exact Qcm hr hs hI ht h.2
    ·exact (hw ⟨q,oq,hq,hd,by omega⟩).elim
    ·exact (hw ⟨q,oq,hq,hd,by omega⟩).elim
 ·have:(E i).getD t .undef=.undef:=by
   rw [Zl,Z9 (by rw [Qap hr i (Z69 ht.lt)];omega)];rfl
  rw [this];exact .imm (.undef _)
theorem Qkl {L:Nat->Prop} {a:Act} {M:Mem} (hI:Inv ops E T ac a0 M0 L a M) {i:Nat} {o:Oper} (ht:Turn ops L i o) (ty:Nat) (x:Operand) (hx:x∈o.op.operands):Rep M (a.eval x) (C.opv (E i) ty x):=by
 cases x with
 |
  tmp t=>
  have:=Qlb hr hs hI ht (t:=t) (List.mem_append_left _ (List.mem_filterMap.2 ⟨.tmp t,by simpa using hx,rfl⟩))
  simpa [Act.eval,Ctx.opv,Z0] using this
 |const c=>exact .imm (Ql5 C ty c)
 |func f=>exact .imm (.func f)
 |global g=>exact .imm (.undef _)
theorem Qp0 {L:Nat->Prop} {a:Act} {M:Mem} (hI:Inv ops E T ac a0 M0 L a M) {i:Nat} {o:Oper} (ht:Turn ops L i o) (hg:guardV ops o (E i)=some true) (ty:Nat) (x:Operand) (hx:x∈o.op.operands) (hmv:isMv o.op=false):∀id∈refs1 (C.opv (E i) ty x),M.S id=(T i).getD id .dead:=by
 intro id hid
 have hrd:id∈opR C o (E i):=by
  simp only [opR,hmv,Zc,List.mem_flatMap]
  refine ⟨x,by simpa using hx,?_⟩
  have:refs1 (C.opv (E i) ty x) ⊆ refs1 (C.opv (E i) 0 x):=by
   cases x<;>simp only [Ctx.opv]<;>try exact λ_ h=>h
   rename_i c
   intro y hy
   have:refs1 (C.constV ty c)=[]:=by
    unfold Ctx.constV
    split<;>try rfl
    unfold Ctx.emptyOf
    repeat' split
    all_goals rfl
   rw [this] at hy;simp at hy
  exact this hid
 have hac:(ac i)=(opR C o (E i),opW C o (E i) (T i),isInl C o (E i)):=by
  rcases (hr i o ht.get).way with ⟨_,_,e⟩|⟨h,_⟩
  ·exact e
  ·rw [hg] at h;simp at h
 have hrd':id∈(ac i).1:=by rw [hac];exact hrd
 refine hI.store id i (Z69 ht.lt) (λq hq hw=>?_) (λq hq hq2 hw hL=>?_)
 ·rcases run_conf hr hs ht.lt hq with h|h|h|⟨_,h2,_,_,h5⟩
  ·exact Qcm hr hs hI ht h
  ·rw [h.1] at hrd';simp at hrd'
  ·exact (J3 h hw).elim
  ·rcases hw with hw|hw
   ·exact (h5 id hrd' hw).elim
   ·rw [h2] at hw;simp at hw
 ·have hne:i≠q:=λe=>ht.un (e▸hL)
  rcases run_conf hr hs hq2 (show i<q by omega) with h|h|h|⟨h1,_,h3,_,_⟩
  ·exact Qey hr hs hI ht (by omega) hq2 hL h
  ·exact J3 h hw
  ·rw [h.1] at hrd';simp at hrd'
  ·rcases hw with hw|hw
   ·exact h3 id hw hrd'
   ·rw [h1] at hw;simp at hw
theorem Inv.next {L:Nat->Prop} {a:Act} {M:Mem} (hI:Inv ops E T ac a0 M0 L a M) {i:Nat} {o:Oper} (ht:Turn ops L i o) {M':Mem} (hst:Step M M') (hok:M'.ok) {cv:Value} (hrep:∀d,o.dst=some d->d<(E 0).length->Rep M' cv ((E (i+1)).getD d .undef))
  (hstore:∀id j,j<=ops.size->(∀q,q<j->Wr ac q id->L q\/q=i)->(∀q,j<=q->q<ops.size->Wr ac q id->¬(L q\/q=i))->M'.S id=(T j).getD id .dead)
  (halloc:∀id,(M'.μ id).isSome=true->id<(T 0).length\/∃q,q<ops.size/\(L q\/q=i)/\(T q).length<=id/\id<(T (q+1)).length)
  (hmono:(T i).length<=(T (i+1)).length):Inv ops E T ac a0 M0 (λq=>L q\/q=i) (a.put o.dst cv) M' where
 down j oj hj hL e he hb:=by
  rcases hL with hL|rfl
  ·exact .inl (hI.down j oj hj hL e he hb)
  ·have:=ht.get;rw [this] at hj;simp only [Zs] at hj;subst hj
   exact .inl (ht.all e he hb)
 ok:=hok
 step:=hI.step.trans hst
 defs:=by rw [Qax,hI.defs]
 size:=by
  rw [<-hI.size];cases o.dst<;>simp [Act.put]
 slot t hlt hw:=by
  by_cases hd:o.dst=some t
  ·have h1:=hrep t hd hlt
   rw [<-Qdm hr ops.size (i:=i+1) (by have:=ht.lt;omega) (Z5 _) λq oq h1 _ hq hd'=>by
    have:=((planOK_spec hs ht.get).2 q oq t hq hd').2
    rcases this with h|h
    ·omega
    ·exact h hd] at h1
   have:(a.put o.dst cv).tmps.getD t Go.undef=cv:=by
    rw [hd];simp [Act.put,Z0,hI.size,hlt]
   rw [this];exact h1
  ·have h1:=hst.rep hI.ok (hI.slot t hlt λq oq hq hdq=>(hw q oq hq hdq).resolve_right λe=>by
    subst e;have:=ht.get;rw [this] at hq;simp only [Zs] at hq;subst hq;exact hd hdq)
   have:(a.put o.dst cv).tmps.getD t Go.undef=a.tmps.getD t Go.undef:=by
    cases hdd:o.dst with
    |none=>rfl
    |
     some d=>
     have:d≠t:=λe=>hd (by rw [hdd,e])
     simp [Act.put,Z0,Z77 this]
   rw [this];exact h1
 slot0 t hlt hw:=by
  have hd:o.dst≠some t:=λh=>hw i o ht.get h (.inr rfl)
  have h1:=hst.rep hI.ok (hI.slot0 t hlt λq oq hq hdq hL=>hw q oq hq hdq (.inl hL))
  have:(a.put o.dst cv).tmps.getD t Go.undef=a.tmps.getD t Go.undef:=by
   cases hdd:o.dst with
   |none=>rfl
   |
    some d=>
    have:d≠t:=λe=>hd (by rw [hdd,e])
    simp [Act.put,Z0,Z77 this]
  rw [this];exact h1
 store:=hstore
 alloc:=halloc
 mono q hq hL:=by
  rcases hL with hL|rfl
  ·exact hI.mono q hq hL
  ·exact hmono
theorem Qnz (hC:Q8 P C) (hIn:InlOK P C I) {L:Nat->Prop} {a:Act} {M:Mem} (hI:Inv ops E T ac a0 M0 L a M) {i:Nat} {o:Oper} (ht:Turn ops L i o) (hg:guardV ops o (E i)=some true) {Q:Exit->Act->World->Prop} {K:Act->World->Prop}
  (hK:∀a' M',Inv ops E T ac a0 M0 (λq=>L q\/q=i) a' M'->K a' M'.w):o.wp P a M.w K Q:=by
 have hlt:=ht.lt
 obtain ⟨v,hev,hE,hac⟩:∃v,C.evOp (I _) true o (E i) (T i) K0=some (v,T (i+1))/\E (i+1)=put (E i) o.dst v/\ac i=(opR C o (E i),opW C o (E i) (T i),isInl C o (E i)):=by
  rcases (hr i o ht.get).way with ⟨_,⟨v,h1,h2⟩,e⟩|⟨h,_⟩
  ·exact ⟨v,h1,h2,e⟩
  ·rw [hg] at h;simp at h
 have hrepv:∀{M':Mem} {cv:Value},Rep M' cv v->∀d,o.dst=some d->d<(E 0).length->Rep M' cv ((E (i+1)).getD d .undef):=λhv d hd hdl=>by
  rw [hE,hd,Qi9 (by rw [Qap hr i (Z69 hlt)];exact hdl)];exact hv
 cases hinl:isInl C o (E i) with
 |
  false=>
  have hmono:(T i).length<=(T (i+1)).length:=(Qek _ hev hinl).1
  have hbar:(ac i).2.2=false:=by rw [hac];exact hinl
  have hWi:∀{id},Wr ac i id↔id∈opW C o (E i) (T i):=by intro id;simp only [Wr,hbar,hac,Z16,or_false,hinl]
  refine Qm8 hC o hI.ok (λhgrow=>?_) (λty x hx=>Qkl hr hs hI ht ty x hx) (λty x hx hmv=>Qp0 hr hs hI ht hg ty x hx hmv) hinl hev λcv M' wr hv hp hsub=>hK _ _ (hI.next hr hs ht hp.step hp.ok (hrepv hv) ?_ ?_ hmono)
  ·cases hμ:M.μ (T i).length with
   |none=>rfl
   |
    some l=>
    exfalso
    have hnp:=Qd8 hr hlt hgrow
    rcases hI.alloc (T i).length (by rw [hμ];rfl) with h|⟨q,hq,hL,h1,h2⟩
    ·have:=Jy hr hI i (Z60 _) (Z69 hlt) λq _ hq hb=>by
      rcases run_conf hr hs hlt hq with h|h|h|⟨_,h2,_⟩
      ·exact Qcm hr hs hI ht h
      ·exact (hnp h).elim
      ·rw [h.2.2] at hb;simp at hb
      ·rw [h2] at hb;simp at hb
     omega
    ·have hne:q≠i:=λe=>ht.un (e▸hL)
     by_cases hqi:q<i
     ·have:=Jy hr hI (i:=q+1) i (by omega) (Z69 hlt) λr _ hr' hb=>by
       rcases run_conf hr hs hlt hr' with h|h|h|⟨_,h2,_⟩
       ·exact Qcm hr hs hI ht h
       ·exact (hnp h).elim
       ·rw [h.2.2] at hb;simp at hb
       ·rw [h2] at hb;simp at hb
      omega
     ·have:=Jy hr hI (i:=i+1) q (by omega) (Z69 hq) λr hr1 hr2 hb=>by
       have hrq:tb (pA pl q) r=true:=by
        rcases run_conf hr hs hq hr2 with h|h|h|⟨_,h2,_⟩
        ·exact h
        ·exact (Qd8 hr hq (by omega) h).elim
        ·rw [h.2.2] at hb;simp at hb
        ·rw [h2] at hb;simp at hb
       exact Qe7 hr hs hI hq hL hrq
      omega
  ·intro id j hj h1 h2
   have hcase:Wr ac i id->i<j/\∀q,i<q->q<j->¬Wr ac q id:=λhw=>by
    have hij:i<j:=by
     rcases Z56 i j with h|h
     ·exact h
     ·exact (h2 i h hlt hw (.inr rfl)).elim
    refine ⟨hij,λq hq1 hq2 hwq=>?_⟩
    have hL:L q:=(h1 q hq2 hwq).resolve_right (by omega)
    rcases run_conf hr hs (show q<ops.size by omega) hq1 with h|h|h|⟨h3,_,_,h4,_⟩
    ·exact Qey hr hs hI ht hq1 (by omega) hL h
    ·exact J3 h hwq
    ·exact J3 h hw
    ·rcases hwq with hwq|hwq
     ·rcases hw with hw|hw
      ·exact h4 id hwq hw
      ·rw [hbar] at hw;simp at hw
     ·rw [h3] at hwq;simp at hwq
   by_cases hwi:Wr ac i id
   ·obtain ⟨hij,hno⟩:=hcase hwi
    have hT:(T j).getD id .dead=(T (i+1)).getD id .dead:=Qhm hr j (by omega) hj λq hq1 hq2=>hno q (by omega) hq2
    rw [hT]
    by_cases hwr:id∈wr
    ·exact hp.wrS id hwr
    ·rw [hp.keepM id hwr,hp.keepS id hwr]
     refine hI.store id i (Z69 hlt) (λq hq hwq=>(h1 q (by omega) hwq).resolve_right (by omega)) (λq hq hq2 hwq hL=>?_)
     by_cases hqi:q=i
     ·subst hqi;exact ht.un hL
     ·by_cases hqj:q<j
      ·exact hno q (by omega) hqj hwq
      ·exact h2 q (by omega) hq2 hwq (.inl hL)
   ·have hwr:id∉wr:=λh=>hwi (hWi.2 (hsub h))
    rw [hp.keepM id hwr]
    exact hI.store id j hj (λq hq hwq=>(h1 q hq hwq).resolve_right λe=>by subst e;exact hwi hwq) (λq hq hq2 hwq hL=>h2 q hq hq2 hwq (.inl hL))
  ·intro id hid
   by_cases e:id=(T i).length
   ·subst e
    rcases hp.μ' hid with h|h
    ·rcases hI.alloc _ h with h|⟨q,h1,h2,h3⟩
     ·exact .inl h
     ·exact .inr ⟨q,h1,.inl h2,h3⟩
    ·exact .inr ⟨i,hlt,.inr rfl,Z5 _,h⟩
   ·rw [hp.μ id e] at hid
    rcases hI.alloc _ hid with h|⟨q,h1,h2,h3⟩
    ·exact .inl h
    ·exact .inr ⟨q,h1,.inl h2,h3⟩
 |
  true=>
  have hbar:(ac i).2.2=true:=by rw [hac];exact hinl
  have hbef:∀q,q<i->¬Qag (ac q)->L q:=λq hq hn=>by
   rcases run_conf hr hs hlt hq with h|h|h|⟨h,_⟩
   ·exact Qcm hr hs hI ht h
   ·have:=h.2.2;rw [hbar] at this;simp at this
   ·exact (hn h).elim
   ·rw [hbar] at h;simp at h
  have haft:∀q,i<q->q<ops.size->¬Qag (ac q)->¬L q:=λq hq hq2 hn hL=>by
   rcases run_conf hr hs hq2 hq with h|h|h|⟨_,h,_⟩
   ·exact Qey hr hs hI ht hq hq2 hL h
   ·exact hn h
   ·have:=h.2.2;rw [hbar] at this;simp at this
   ·rw [hbar] at h;simp at h
  have hnb:∀q,(ac q).2.2=true->¬Qag (ac q):=λq h hp=>by rw [hp.2.2] at h;simp at h
  have hN:Now M (T i):=by
   refine ⟨hI.ok,λid=>hI.store id i (Z69 hlt) (λq hq hw=>hbef q hq λhp=>J3 hp hw) (λq hq hq2 hw hL=>?_),λid hid=>?_⟩
   ·by_cases e:q=i
    ·subst e;exact ht.un hL
    ·exact haft q (by omega) hq2 (λhp=>J3 hp hw) hL
   ·cases hμ:M.μ id with
    |none=>rfl
    |
     some l=>
     exfalso
     rcases hI.alloc id (by rw [hμ];rfl) with h|⟨q,hq,hL,h1,h2⟩
     ·have:=Jy hr hI i (Z60 _) (Z69 hlt) λq _ hq hb=>hbef q hq (hnb q hb)
      omega
     ·have hqi:q<i:=by
       rcases Nat.lt_trichotomy q i with h|h|h
       ·exact h
       ·subst h;exact (ht.un hL).elim
       ·exact (haft q h hq (Qd8 hr hq (by omega)) hL).elim
      have:=Jy hr hI (i:=q+1) i (by omega) (Z69 hlt) λr _ hr' hb=>hbef r hr' (hnb r hb)
      omega
  refine Qi7 hIn true o hN (λty x hx=>Qkl hr hs hI ht ty x hx) hinl hev λcv M' hst hN' hv hlen=>hK _ _ (hI.next hr hs ht hst hN'.ok (hrepv hv) ?_ ?_ hlen)
  ·intro id j hj h1 h2
   have hij:i<j:=by
    rcases Z56 i j with h|h
    ·exact h
    ·exact (h2 i h hlt (.inr hbar) (.inr rfl)).elim
   rw [hN'.is id]
   refine (Qhm hr j (by omega) hj λq hq1 hq2 hw=>?_).symm
   exact haft q (by omega) (by omega) (λhp=>J3 hp hw) ((h1 q hq2 hw).resolve_right (by omega))
  ·have key:∀m,m<=i+1->∀id,id<(T m).length->id<(T 0).length\/∃q,q<m/\(T q).length<=id/\id<(T (q+1)).length:=by
    intro m
    induction m with
    |zero=>intro _ id h;exact .inl h
    |
     succ m ih=>
     intro hm id h
     by_cases hlm:id<(T m).length
     ·rcases ih (by omega) id hlm with h|⟨q,h1,h2⟩
      ·exact .inl h
      ·exact .inr ⟨q,by omega,h2⟩
     ·exact .inr ⟨m,by omega,by omega,h⟩
   intro id hid
   have hlt':id<(T (i+1)).length:=by
    rcases Z56 id (T (i+1)).length with h|h
    ·exact h
    ·rw [hN'.fresh id h] at hid;simp at hid
   rcases key (i+1) (Z5 _) id hlt' with h|⟨q,h1,h2,h3⟩
   ·exact .inl h
   ·refine .inr ⟨q,by omega,?_,h2,h3⟩
    by_cases e:q=i
    ·exact .inr e
    ·exact .inl (hbef q (by omega) (Qd8 hr (by omega) (by omega)))
theorem Qq2 {L:Nat->Prop} {a:Act} {M:Mem} (hI:Inv ops E T ac a0 M0 L a M) {i:Nat} {o:Oper} (ht:Turn ops L i o) (hg:guardV ops o (E i)=some false):Inv ops E T ac a0 M0 (λq=>L q\/q=i) (a.put o.dst Go.undef) M:=by
 have hlt:=ht.lt
 obtain ⟨hT,hE,hac⟩:T (i+1)=T i/\E (i+1)=put (E i) o.dst (.tup [])/\ac i=([],[],false):=by
  rcases (hr i o ht.get).way with ⟨h,_⟩|⟨_,h⟩
  ·rw [hg] at h;simp at h
  ·exact h
 have hwi:∀id,¬Wr ac i id:=λid h=>by simp [Wr,hac] at h
 refine hI.next hr hs ht (.refl M) hI.ok (λd hd hdl=>?_) (λid j hj h1 h2=>?_) (λid hid=>?_) (by rw [hT];exact Z5 _)
 ·rw [hE,hd,Qi9 (by rw [Qap hr i (Z69 hlt)];exact hdl)]
  exact .imm (.tup #[] [] rfl (λj hj=>by simp at hj))
 ·exact hI.store id j hj (λq hq hwq=>(h1 q hq hwq).resolve_right λe=>by subst e;exact hwi _ hwq) (λq hq hq2 hwq hL=>h2 q hq hq2 hwq (.inl hL))
 ·rcases hI.alloc _ hid with h|⟨q,h1,h2,h3⟩
  ·exact .inl h
  ·exact .inr ⟨q,h1,.inl h2,h3⟩
end
theorem Qru {l:List Bool} {i:Nat} (h:l[i]? = some false):(l.set i true).count false+1=l.count false:=by
 induction l generalizing i with
 |nil=>simp at h
 |
  cons b l ih=>
  cases i with
  |zero=>simp only [Z51,Zs] at h;subst h;simp
  |
   succ i=>
   have:=ih (i:=i) (by simpa using h)
   simp only [List.set_cons_succ,List.count_cons] at this ⊢
   omega
section
variable {P:Program} {C:Ctx} {I:InlP} {ops:Array Oper} {pl:Plan} {E:Nat->Env} {T:Nat->Store} {ac:Nat->Ent} {a0:Act} {M0:Mem} {Q:Exit->Act->World->Prop}
abbrev Lst (listed:Array Bool) (q:Nat):Prop:=listed.getD q false=true
theorem Qtg (hr:RunV C I ops pl E T ac) (hs:Y7 ops pl=true) (hC:Q8 P C) (hIn:InlOK P C I) (hQ:∀a M,(∀L,(∀q,q<ops.size->L q)->Inv ops E T ac a0 M0 L a M->Q .normal a M.w)) :
  ∀(fuel:Nat) (listed:Array Bool) (a:Act) (M:Mem),listed.size=ops.size->listed.toList.count false=fuel->Inv ops E T ac a0 M0 (Lst listed) a M->wpAny P .any ops Q fuel listed a M.w:=by
 intro fuel
 have hfin:∀(listed:Array Bool) (a:Act) (M:Mem),listed.size=ops.size->Inv ops E T ac a0 M0 (Lst listed) a M->Region.ready .any ops listed=[]->Q .normal a M.w:=by
  intro listed a M hsz hI hrd
  refine hQ a M _ (λq hq=>?_) hI
  have key:∀q,q<ops.size->Lst listed q:=by
   intro q
   induction q using Nat.strongRecOn with
   |
    _ q ih=>
    intro hq
    by_cases h:listed.getD q false=true
    ·exact h
    ·exfalso
     have ho:ops[q]? = some (ops[q]'hq):=Z24 hq
     have hmem:q∈Region.ready .any ops listed:=mem_ready.2 ⟨by
      have:q<listed.size:=by omega
      simp [Z0,this] at h ⊢;exact h,_,ho,λe he hb=>by
       have:=(planOK_spec hs ho).1 e he hb
       exact ih e.on this (by omega)⟩
     rw [hrd] at hmem;simp at hmem
  exact key q hq
 induction fuel with
 |
  zero=>
  intro listed a M hsz hcount hI
  have hrd:Region.ready .any ops listed=[]:=by
   rw [List.eq_nil_iff_forall_not_mem]
   intro j hj
   obtain ⟨h0,o,ho,_⟩:=mem_ready.1 hj
   have hj':j<ops.size:=(Z72.1 ho).1
   have:j<listed.size:=by omega
   have hf:listed.toList[j]? = some false:=by simp [Z0,this] at h0 ⊢;exact h0
   have:=List.count_pos_iff.2 (List.mem_of_getElem? hf)
   omega
  exact ⟨hrd,hfin listed a M hsz hI hrd⟩
 |
  succ fuel ih=>
  intro listed a M hsz hcount hI
  refine ⟨hfin listed a M hsz hI,λi hi=>?_⟩
  obtain ⟨h0,o,ho,hall⟩:=mem_ready.1 hi
  have hi':i<ops.size:=(Z72.1 ho).1
  have hil:i<listed.size:=by omega
  have hf:listed.toList[i]? = some false:=by simp [Z0,hil] at h0 ⊢;exact h0
  have ht:Turn ops (Lst listed) i o:=⟨ho,by simp [Lst,Z0,hil] at h0 ⊢;exact h0,λe he hb=>hall e he hb⟩
  have hset:∀{a' M'},Inv ops E T ac a0 M0 (λq=>Lst listed q\/q=i) a' M'->wpAny P .any ops Q fuel (listed.setIfInBounds i true) a' M'.w:=λ{a' M'} hI'=>by
   refine ih _ a' M' (by simpa using hsz) ?_ ?_
   ·have:=Qru hf
    simp only [Array.toList_setIfInBounds]
    omega
   ·have hfun:(λq=>Lst listed q\/q=i)=Lst (listed.setIfInBounds i true):=by
     funext q
     simp only [Lst,Z0]
     by_cases e:q=i
     ·subst e;simp [hil]
     ·rw [Z77 (λh=>e h.symm)];simp [e]
    rw [<-hfun];exact hI'
  unfold wpOp
  simp only [ho]
  have hgw:∀b,guardV ops o (E i)=some b->Region.wanted o (yielded ops a.tmps)=b:=λb hb=>Qhf hb λj want g hg hgs=>Qlb hr hs hI ht (by
   have:g∈o.looksAt ops:=by
    unfold Oper.looksAt
    rw [hg]
    refine List.mem_append_right _ ?_
    unfold guardSlot at hgs
    simp [hgs]
   exact this)
  rcases (hr i o ho).way with ⟨hg,_⟩|⟨hg,_⟩
  ·rw [if_pos (hgw true hg)]
   exact .inl (Qnz hr hs hC hIn hI ht hg λa' M' hI'=>hset hI')
  ·rw [if_neg (by rw [hgw false hg];simp)]
   exact hset (Qq2 hr hs hI ht hg)
theorem Qoq (hC:Q8 P C) (hIn:InlOK P C I) {id:Nat} {env env':Env} {S S':Store} {a:Act} {M:Mem} (hN:Now M S) (he:Qx M a.tmps env) (hs:Y7 ops pl=true)
  (h:C.evOpsD (I (Env×Store)) ops pl ops.toList 0 [] env S (λe s=>some (e,s))=some (env',S'))
  (hQ:∀a' M',Step M M'->Now M' S'->Qx M' a'.tmps env'->a'.defers=a.defers->S.length<=S'.length->Q .normal a' M'.w):(Code.region id ops true).wp P Q a M.w:=by
 obtain ⟨E,T,ac,rfl,rfl,hE,hT,htr⟩:=Qlv hIn _ _ _ _ _ h
 have hr:RunV C I ops pl E T ac:=λk o hk=>by simpa using htr k o (by simpa using hk)
 simp only [Z26] at hE hT
 subst hE hT
 have hgrow:M.w.grownBy {M.w with drawn:=M.w.drawn+1} none:=⟨rfl,rfl,rfl,Z5 _,λ_ _ _=>rfl⟩
 have hp:=post_world hN.ok (T 0) hgrow
 have hN1:=hp.now hN
 refine wp_region_any hC.mixed (Qtg (a0:=a) (M0:=M) hr hs hC hIn (λa' M' L hL hI=>?_) ops.size _ a {M with w:={M.w with drawn:=M.w.drawn+1} } (by simp) (by simp) ?_)
 ·have hmono:(T 0).length<=(T ops.size).length:=Jy hr hI ops.size (Z60 _) (Z5 _) λq _ hq _=>hL q hq
  refine hQ a' M' hI.step ⟨hI.ok,λid=>hI.store id ops.size (Z5 _) (λq hq _=>hL q hq) (λq h1 h2=>by omega),λid hid=>?_⟩ ⟨?_,λt ht=>?_⟩ hI.defs hmono
  ·cases hμ:M'.μ id with
   |none=>rfl
   |
    some l=>
    exfalso
    rcases hI.alloc id (by rw [hμ];rfl) with h|⟨q,hq,_,h1,h2⟩
    ·omega
    ·have:=Jy hr hI (i:=q+1) ops.size (by omega) (Z5 _) λr _ hr' _=>hL r hr'
     omega
  ·rw [Qap hr _ (Z5 _)];exact hI.size
  ·have:=hI.slot t (by rw [Qap hr _ (Z5 _)] at ht;exact ht) λq oq hq _=>hL q (Z72.1 hq).1
   rw [Zl,Z1 ht] at this
   exact this
 ·refine ⟨λj oj hj hL=>?_,hN1.ok,hp.step,rfl,he.1,λt ht hw=>?_,λt ht _=>?_,λid j hj h1 h2=>?_,λid hid=>?_,λq hq hL=>?_⟩
  ·have:=(Z72.1 hj).1
   simp [Lst,Z0,this] at hL
  ·rw [Qdm hr ops.size (i:=0) (Z60 _) (Z5 _) λq oq _ hq hqo hd=>by
    have:=hw q oq hqo hd
    simp [Lst,Z0,hq] at this]
   have:=hp.step.rep hN.ok (he.2 t ht)
   rw [Zl,Z1 ht]
   exact this
  ·have:=hp.step.rep hN.ok (he.2 t ht)
   rw [Zl,Z1 ht]
   exact this
  ·rw [hN1.is id]
   exact (Qhm hr j (Z60 _) hj λq _ hq hw=>by
    have:=h1 q hq hw
    simp [Lst,Z0,show q<ops.size by omega] at this).symm
  ·left
   rcases Z56 id (T 0).length with h|h
   ·exact h
   ·rw [hN1.fresh id h] at hid;simp at hid
  ·simp [Lst,Z0,hq] at hL
end
abbrev Out:=X×Env×Store
abbrev KK:Kont Out:=λe env S=>some (e,env,S)
abbrev Bk {R:Type} (f:Option Out) (K:Kont R):Option R:=f.bind λp=>K p.1 p.2.1 p.2.2
theorem Qkj {R:Type} (k:Env->Store->Option Out) (K:Kont R) (p:Out):Kont.seq (λenv S=>Bk (k env S) K) K p.1 p.2.1 p.2.2=Bk (Kont.seq k KK p.1 p.2.1 p.2.2) K:=by
 obtain ⟨e,env,S⟩:=p
 cases e<;>rfl
theorem W6 {R:Type} (id:Nat) (K:Kont R) (p:Out):Kont.block id K p.1 p.2.1 p.2.2=Bk (Kont.block id KK p.1 p.2.1 p.2.2) K:=by
 obtain ⟨e,env,S⟩:=p
 cases e<;>simp only [Kont.block]<;>try rfl
 split<;>rfl
theorem Qvr {R:Type} (K:Kont R) (p:Out):Kont.noGoto K p.1 p.2.1 p.2.2=Bk (Kont.noGoto KK p.1 p.2.1 p.2.2) K:=by
 obtain ⟨e,env,S⟩:=p
 cases e<;>rfl
theorem Yc {R:Type} (f:Option Out) (g:Kont Out) (K:Kont R):Bk (Bk f g) K=Bk f λe env S=>Bk (g e env S) K:=by cases f<;>rfl
theorem Yb {R:Type} {f:Option Out} {K K':Kont R} (h:∀p:Out,K p.1 p.2.1 p.2.2=K' p.1 p.2.1 p.2.2):Bk f K=Bk f K':=by
 cases f with
 |none=>rfl
 |some p=>exact h p
section
variable {P:Program} {C:Ctx} {I:InlP} (hI:InlOK P C I)
include hI
theorem Qe6 {R:Type} (fid base id:Nat) (ops:Array Oper) (draw:Bool) (env:Env) (S:Store) (K:Kont R):C.evK (I R) fid base (.region id ops draw) env S K=Bk (C.evK (I Out) fid base (.region id ops draw) env S KK) K:=by
 simp only [Ctx.evK]
 cases draw<;>simp only [Zd,Zc]
 ·rw [Qco hI,Qco hI false ops ops.toList env S λenv S=>KK .normal env S]
  cases C.evOps (I (Env×Store)) false ops ops.toList env S λe s=>some (e,s)<;>rfl
 ·split
  ·rw [Qce hI,Qce hI ops _ ops.toList 0 [] env S λenv S=>KK .normal env S]
   cases C.evOpsD (I (Env×Store)) ops (C.draws fid id) ops.toList 0 [] env S λe s=>some (e,s)<;>rfl
  ·rfl
theorem Qv {R:Type} (fid base:Nat):∀(c:Code) (env:Env) (S:Store) (K:Kont R),C.evK (I R) fid base c env S K=Bk (C.evK (I Out) fid base c env S KK) K
 |.skip,env,S,K=>rfl
 |.region id ops draw,env,S,K=>Qe6 hI fid base id ops draw env S K
 |
  .seq a b,env,S,K=>by
  simp only [Ctx.evK]
  rw [Qv fid base a,Qv (R:=Out) fid base a env S (Kont.seq (λenv S=>C.evK (I Out) fid base b env S KK) KK),Yc]
  rw [show (λenv S=>C.evK (I R) fid base b env S K)=λenv S=>Bk (C.evK (I Out) fid base b env S KK) K from funext λenv=>funext λS=>Qv fid base b env S K]
  exact Yb (Qkj _ K)
 |
  .cond c t e,env,S,K=>by
  simp only [Ctx.evK]
  split
  ·rename_i b _
   cases b<;>simp only [Zd,Zc]
   ·exact Qv fid base e env S K
   ·exact Qv fid base t env S K
  ·rfl
 |
  .block id (.loop b),env,S,K=>by
  simp only [Ctx.evK]
  generalize C.unroll fid id=n
  generalize (env,S)=st
  revert st
  induction n with
  |
   zero=>
   intro st
   simp only [J5]
   split
   ·rename_i m out _
    cases m with
    |none=>rfl
    |some o=>exact W6 id K (out o)
   ·rename_i m out out' _
    cases m with
    |none=>rfl
    |
     some o=>cases o with
     |inl o=>exact W6 id K (out o)
     |inr o=>exact W6 id K (out' o)
   ·rfl
  |
   succ n ih=>
   intro st
   simp only [J5]
   rw [Qv fid base b,Qv (R:=Out) fid base b st.1 st.2 (Kont.seq _ (Kont.block id KK)),Yc]
   refine Yb λp=>?_
   obtain ⟨e,env,S⟩:=p
   cases e with
   |normal=>exact ih (env,S)
   |exit i=>exact W6 id K (.exit i,env,S)
   |goto l=>exact W6 id K (.goto l,env,S)
   |ret=>rfl
 |
  .block id .skip,env,S,K=>by
  simp only [Ctx.evK];rfl
 |
  .block id (.region i ops draw),env,S,K=>by
  show C.evK (I R) fid base (.region i ops draw) env S (Kont.block id K)=Bk (C.evK (I Out) fid base (.region i ops draw) env S (Kont.block id KK)) K
  rw [Qe6 hI,Qe6 (R:=Out) hI fid base i ops draw env S (Kont.block id KK),Yc]
  exact Yb (W6 id K)
 |
  .block id (.seq a b),env,S,K=>by
  show C.evK (I R) fid base (.seq a b) env S (Kont.block id K)=Bk (C.evK (I Out) fid base (.seq a b) env S (Kont.block id KK)) K
  rw [Qv fid base (.seq a b),Qv (R:=Out) fid base (.seq a b) env S (Kont.block id KK),Yc]
  exact Yb (W6 id K)
 |
  .block id (.cond a b c),env,S,K=>by
  show C.evK (I R) fid base (.cond a b c) env S (Kont.block id K)=Bk (C.evK (I Out) fid base (.cond a b c) env S (Kont.block id KK)) K
  rw [Qv fid base (.cond a b c),Qv (R:=Out) fid base (.cond a b c) env S (Kont.block id KK),Yc]
  exact Yb (W6 id K)
 |
  .block id (.block i b),env,S,K=>by
  show C.evK (I R) fid base (.block i b) env S (Kont.block id K)=Bk (C.evK (I Out) fid base (.block i b) env S (Kont.block id KK)) K
  rw [Qv fid base (.block i b),Qv (R:=Out) fid base (.block i b) env S (Kont.block id KK),Yc]
  exact Yb (W6 id K)
 |
  .block id (.exit i),env,S,K=>by
  show Kont.block id K (.exit i) env S=Bk (Kont.block id KK (.exit i) env S) K
  exact W6 id K (.exit i,env,S)
 |.block id .ret,env,S,K=>rfl
 |.block id (.rangeFunc ..),env,S,K=>rfl
 |
  .block id (.scope c),env,S,K=>by
  show C.evK (I R) fid base (.scope c) env S (Kont.block id K)=Bk (C.evK (I Out) fid base (.scope c) env S (Kont.block id KK)) K
  rw [Qv fid base (.scope c),Qv (R:=Out) fid base (.scope c) env S (Kont.block id KK),Yc]
  exact Yb (W6 id K)
 |.block id (.label l),env,S,K=>rfl
 |
  .block id (.goto l),env,S,K=>by
  show Kont.block id K (.goto l) env S=Bk (Kont.block id KK (.goto l) env S) K
  exact W6 id K (.goto l,env,S)
 |.block id (.refuse ..),env,S,K=>rfl
 |.ret,env,S,K=>rfl
 |.exit id,env,S,K=>rfl
 |.loop _,env,S,K=>rfl
 |.rangeFunc ..,env,S,K=>rfl
 |
  .scope c,env,S,K=>by
  show C.evK (I R) fid base c env S (Kont.noGoto K)=Bk (C.evK (I Out) fid base c env S (Kont.noGoto KK)) K
  rw [Qv fid base c,Qv (R:=Out) fid base c env S (Kont.noGoto KK),Yc]
  exact Yb (Qvr K)
 |.label _,env,S,K=>rfl
 |.goto _,env,S,K=>rfl
 |.refuse _,env,S,K=>rfl
termination_by c=>SizeOf.sizeOf c
theorem Qin {R:Type} (fid base:Nat) (c:Code) (K:Kont R):∀(n:Nat) (p:Out),C.gotoK (I R) fid base c K n p.1 p.2.1 p.2.2=Bk (C.gotoK (I Out) fid base c KK n p.1 p.2.1 p.2.2) K
 |0,(.normal,env,S)=>rfl
 |0,(.exit i,env,S)=>rfl
 |0,(.ret,env,S)=>rfl
 |0,(.goto l,env,S)=>rfl
 |n+1,(.normal,env,S)=>rfl
 |n+1,(.exit i,env,S)=>rfl
 |n+1,(.ret,env,S)=>rfl
 |
  n+1,(.goto l,env,S)=>by
  simp only [Ctx.gotoK]
  split
  ·split
   ·rename_i rest _
    rw [Qv hI,Qv hI (R:=Out) fid base rest env S (C.gotoK (I Out) fid base c KK n),Yc]
    exact Yb (Qin fid base c K n)
   ·rfl
  ·rfl
theorem Qjm {R:Type} (fid base:Nat) (c:Code) (env:Env) (S:Store) (K:Kont R):C.evS (I R) fid base c env S K=Bk (C.evS (I Out) fid base c env S KK) K:=by
 unfold Ctx.evS
 rw [Qv hI,Qv hI (R:=Out) fid base c env S (C.gotoK (I Out) fid base c KK _),Yc]
 exact Yb (Qin hI fid base c K _)
theorem Qpl {R:Type} (fid base:Nat) (c:Code) (env:Env) (S:Store) (K:Kont R):C.evB (I R) fid base c env S K=Bk (C.evB (I Out) fid base c env S KK) K:=by
 unfold Ctx.evB
 split
 ·exact Qjm hI fid base _ env S K
 ·rename_i x c
  rw [Qv hI,Qv hI (R:=Out) fid base x env S (Kont.seq (λenv S=>C.evS (I Out) fid base c env S KK) KK),Yc]
  rw [show (λenv S=>C.evS (I R) fid base c env S K)=λenv S=>Bk (C.evS (I Out) fid base c env S KK) K from funext λenv=>funext λS=>Qjm hI fid base c env S K]
  exact Yb (Qkj _ K)
 ·exact Qv hI fid base c env S K
end
theorem Yh (C:Ctx) {R:Type} (env:Env) (S:Store):∀(rs:List ResultVar) (K:List V->Option R),C.resK env S rs K=(C.resK env S rs some).bind K
 |[],K=>rfl
 |
  .tmp t::r,K=>by
  simp only [Ctx.resK]
  rw [Yh C env S r,Yh C env S r λvs=>some (env.getD t .undef::vs)]
  cases C.resK env S r some<;>rfl
 |
  .cell a t::r,K=>by
  simp only [Ctx.resK]
  rw [Qaw,Qaw C t S _ λv=>C.resK env S r λvs=>some (v::vs)]
  cases C.loadV t S (env.getD a .undef) some with
  |none=>rfl
  |
   some v=>
   simp only [Zb]
   rw [Yh C env S r,Yh C env S r λvs=>some (v::vs)]
   cases C.resK env S r some<;>rfl
theorem Qhn {a b:Nat}:Nat.blt a b=true↔a<b:=by rw [Nat.blt_eq]
theorem Qmi {M:Mem} (hM:M.ok) {S S1:Store} (hi:M.is S1) (hc:∀id ver,contentOf S1 id ver=contentOf S id ver) {tmps:Array Value}:∀(ts:List Nat) (env:Env),Qx M tmps env->(∀t∈ts,still S1 (env.getD t .undef))->Qx M tmps (immSlots ts env S)
 |[],env,he,_=>he
 |
  t::ts,env,he,hs=>by
  simp only [immSlots]
  have hst:=hs t (by simp)
  have hstill:still S1 (immOf S (env.getD t .undef)):=by
   have hrep:=he.get (a:=⟨tmps,[]⟩) t
   generalize env.getD t .undef=v at hst hrep
   cases v<;>simp only [immOf]<;>try exact hst
   ·split<;>trivial
   ·rename_i id ver lo n
    split
    ·rename_i c hcc
     obtain ⟨_,_,hp⟩:=Yd hrep
     obtain ⟨_,m,_,_,_,hm,_⟩:=hp c (by rw [hi id];exact (hc id ver).trans hcc)
     cases c<;>simp [lenV] at hm<;>trivial
    ·trivial
  refine Qmi hM hi hc ts _ ⟨by simpa using he.1,λu hu=>?_⟩ λu hu=>?_
  ·rw [List.getElem_set]
   split
   ·rename_i e
    subst e
    have hu':t<env.length:=by simpa using hu
    have h1:=Qg5 hM hi (he.get (a:=⟨tmps,[]⟩) t) hst
    rwa [Qc9 hc] at h1
   ·exact he.2 u (by simpa using hu)
  ·rw [Zl,List.getElem?_set]
   split
   ·split
    ·exact hstill
    ·trivial
   ·rw [<-Zl];exact hs u (by simp [hu])
theorem Qcu (base n:Nat) (ks:List Nat) (S:Store):∀(bs:Store) (i:Nat),(Q0 base n ks S i bs).length=bs.length/\∀k,(Q0 base n ks S i bs)[k]? = (bs[k]?).map λb=>bif Nat.blt (i+k) base then normBlk base n S true b else if ks.contains (i+k) then normBlk base n S false b else .dead
 |[],i=>⟨rfl,λk=>by simp [Q0]⟩
 |
  b::bs,i=>by
  obtain ⟨h1,h2⟩:=Qcu base n ks S bs (i+1)
  refine ⟨by simp [Q0,h1],λk=>?_⟩
  cases k with
  |zero=>simp [Q0]
  |
   succ k=>
   simp only [Q0,List.getElem?_cons_succ,h2 k]
   rw [show i+1+k=i+(k+1) by omega]
theorem Qh7 {base n:Nat} {S:Store} {old:Bool} {b:Blk}:(normBlk base n S old b).own=b.own:=by cases b<;>rfl
theorem Qkp {base n:Nat} {S:Store} {old:Bool} {b:Blk}:(normBlk base n S old b).fix=b.fix:=by
 cases b<;>try rfl
 rename_i g _ _;cases g<;>rfl
theorem Qkv {base n:Nat} {S:Store} {b:Blk} (ver:Nat):contentB (normBlk base n S true b) ver=contentB b ver:=by cases b<;>rfl
theorem Qij {base n:Nat} {S:Store} {b:Blk}:verB (normBlk base n S true b)=verB b:=by cases b<;>rfl
theorem Qec {O:Nat->Prop} {w:World} {cv:Value} {v:V} (h:Rep0 O w cv v) (hc:contentVal v=true):Rep0 O w cv (unexact v):=by
 cases h with
 |
  slice A n cap v fl cf hf hx hle hm hcl ho hr=>
  exact .slice A n cap _ fl cf (by cases v<;>first|exact hf|(simp [contentVal] at hc)) (λh=>by cases v<;>simp [contentVal,unexact,isExact] at hc h) hle hm hcl ho hr
 |_=>simp [contentVal] at hc
theorem Qaq {M M':Mem} (id:Nat) (hμ:M'.μ id=M.μ id) (hc:∀ver,contentB (M'.S id) ver=contentB (M.S id) ver) (hv:verB (M'.S id)=verB (M.S id)) (hf:(M'.S id).fix=(M.S id).fix) {cv:Value} {v:V} (hid:refs1 v=[id]) (h:M.Ref cv v):M'.Ref cv v:=by
 refine ⟨h.1,?_⟩
 have h2:=h.2
 cases v<;>simp only [refs1] at hid<;>try (simp at hid;done)
 all_goals
  simp only [List.cons.injEq,and_true] at hid
  subst hid
  simp only [Mem.Ref1,verLe,hμ,hc,hv,hf] at h2 ⊢
  exact h2
theorem Qmq {M:Mem} {cv:Value} {v:V} (h:M.Ref cv v):∃id,refs1 v=[id]/\(M.μ id).isSome=true:=by
 have h2:=h.2
 cases v<;>simp only [Mem.Ref1] at h2<;>try exact h2.elim
 ·exact ⟨_,rfl,h2.1⟩
 ·exact ⟨_,rfl,h2.1.1⟩
 ·exact ⟨_,rfl,h2.1.1⟩
 ·exact ⟨_,rfl,h2.1.1⟩
section
variable {M0 M M1:Mem} {S S1:Store} {base n:Nat} {ks:List Nat}
def Qz (M:Mem) (n:Nat) (S2:Store):Mem:={M with μ:=λid=>if id<n then M.μ id else none,S:=λid=>S2.getD id .dead}
theorem normM_S (hi:M.is S) (id:Nat):(Qz M n (Q0 base n ks S 0 (S.take n))).S id=.dead\/(id<n/\∃old,(id<base->old=true)/\(Qz M n (Q0 base n ks S 0 (S.take n))).S id=normBlk base n S old (M.S id)):=by
 simp only [Qz,Zl,(Qcu base n ks S (S.take n) 0).2 id,Z49,Z25,hi id]
 by_cases hlt:id<n
 ·simp only [hlt,if_true,true_and]
  cases hk:S[id]? with
  |none=>exact .inl rfl
  |
   some b=>
   simp only [Option.map_some,Z45]
   cases hb:Nat.blt id base with
   |true=>exact .inr ⟨true,λ_=>rfl,rfl⟩
   |
    false=>
    simp only [Zc]
    split
    ·exact .inr ⟨false,λh=>by have:=Qhn.2 h;rw [hb] at this;simp at this,rfl⟩
    ·exact .inl rfl
 ·simp [hlt]
theorem Qvv (hi:M.is S) (hbn:base<=n) {id:Nat} (h:id<base):(Qz M n (Q0 base n ks S 0 (S.take n))).S id=normBlk base n S true (M.S id):=by
 simp only [Qz,Zl,(Qcu base n ks S (S.take n) 0).2 id,Z49,Z25,hi id]
 have hb:Nat.blt id base=true:=Qhn.2 h
 rw [if_pos (by omega)]
 cases hk:S[id]? with
 |none=>rfl
 |some b=>simp only [Option.map_some,Z45,hb,Zd]
theorem Qou {id ver:Nat} (h:cur S id ver=true):verB (S.getD id .dead)=some ver:=by
 unfold cur at h
 split at h
 ·rename_i e;rw [e];simpa [verB] using h
 ·rename_i e;rw [e];simpa [verB] using h
 ·simp at h
theorem Qkt (hi:M.is S) {id ver:Nat} (hc:cur S id ver=true):verLe ((Qz M n (Q0 base n ks S 0 (S.take n))).S id) (bif Nat.blt id base then ver else 0) /\
  ∀c,contentB ((Qz M n (Q0 base n ks S 0 (S.take n))).S id) (bif Nat.blt id base then ver else 0)=some c->contentB (M.S id) ver=some c:=by
 have hv:=Qou hc
 rw [<-hi id] at hv
 rcases normM_S (base:=base) (n:=n) (ks:=ks) hi id with h|⟨hlt,old,hold,h⟩
 ·rw [h];exact ⟨λv hv=>by simp [verB] at hv,λc hc=>by simp [contentB] at hc⟩
 ·rw [h]
  cases hb:Nat.blt id base with
  |
   true=>
   have:=hold (Qhn.1 hb);subst this
   simp only [Zd]
   exact ⟨λv hv'=>by rw [Qij,hv] at hv';simp at hv';omega,λc hc=>by rwa [Qkv] at hc⟩
  |
   false=>
   simp only [Zc]
   refine ⟨λv _=>Z60 _,λc hc=>?_⟩
   cases hk:M.S id<;>rw [hk] at hc hv<;>simp [verB] at hv<;>simp [normBlk,contentB] at hc ⊢
   ·exact ⟨hv,hc.2⟩
   ·exact ⟨hv,hc.2⟩
theorem Qen (hi:M.is S) {cv:Value} {v:V} (h:Rep M cv v):Rep (Qz M n (Q0 base n ks S 0 (S.take n))) cv (norm1 base n S v):=by
 have undef:∀{M:Mem} {cv:Value},Rep M cv .undef:=.imm (.undef _)
 have plain:(∀cv,¬M.Ref cv v)->(∀cs,v≠.agg cs)->(∀cs,v≠.tup cs)->(∀f cs,v≠.func f cs)->(∀t u,v≠.iface t u)->Rep0 M.O M.w cv v:=λh1 h2 h3 h4 h5=>by
  cases h with
  |imm h=>exact h
  |ref h=>exact (h1 _ h).elim
  |agg _ cs=>exact (h2 cs rfl).elim
  |tup _ cs=>exact (h3 cs rfl).elim
  |func f _ cs=>exact (h4 f cs rfl).elim
  |iface t _ u=>exact (h5 t u rfl).elim
 cases v<;>simp only [norm1]<;>try (first|exact undef|exact .imm (plain (λcv h=>h.2) (λ_ h=>by simp at h) (λ_ h=>by simp at h) (λ_ _ h=>by simp at h) (λ_ _ h=>by simp at h)))
 ·exact .imm (Qec (v:=.ints _ _ _) (plain (λcv h=>h.2) (λ_ h=>by simp at h) (λ_ h=>by simp at h) (λ_ _ h=>by simp at h) (λ_ _ h=>by simp at h)) rfl)
 ·exact .imm (Qec (v:=.strs _ _) (plain (λcv h=>h.2) (λ_ h=>by simp at h) (λ_ h=>by simp at h) (λ_ _ h=>by simp at h) (λ_ _ h=>by simp at h)) rfl)
 ·exact .imm (Qec (v:=.recs _ _ _) (plain (λcv h=>h.2) (λ_ h=>by simp at h) (λ_ h=>by simp at h) (λ_ _ h=>by simp at h) (λ_ _ h=>by simp at h)) rfl)
 ·rename_i id off
  split
  ·rename_i hlt
   obtain ⟨h1,h2,h3⟩:=Ww h
   refine .ref ⟨h1,?_,λhf=>?_⟩
   ·simp only [Qz,hlt,if_true];exact h2
   ·have hμ:(Qz M n (Q0 base n ks S 0 (S.take n))).μ id=M.μ id:=by simp only [Qz,hlt,if_true]
    rw [hμ]
    refine h3 ?_
    rcases normM_S (base:=base) (n:=n) (ks:=ks) hi id with h|⟨_,old,_,h⟩
    ·rw [h] at hf;simp [Blk.fix] at hf
    ·rwa [h,Qkp] at hf
  ·exact undef
 ·rename_i id ver
  split
  ·rename_i hlt
   split
   ·rename_i hc
    obtain ⟨h1,⟨h2,h3⟩,h4⟩:=W8 h
    obtain ⟨h5,h6⟩:=Qkt (base:=base) (n:=n) (ks:=ks) hi hc
    have hμ:(Qz M n (Q0 base n ks S 0 (S.take n))).μ id=M.μ id:=by simp only [Qz,hlt,if_true]
    refine .ref ⟨h1,⟨by rw [hμ];exact h2,h5⟩,λc hcc=>?_⟩
    rw [hμ];exact h4 c (h6 c hcc)
   ·exact undef
  ·exact undef
 ·rename_i id ver lo k
  split
  ·rename_i hlt
   split
   ·rename_i hc
    obtain ⟨h1,⟨h2,h3⟩,h4⟩:=Yd h
    obtain ⟨h5,h6⟩:=Qkt (base:=base) (n:=n) (ks:=ks) hi hc
    have hμ:(Qz M n (Q0 base n ks S 0 (S.take n))).μ id=M.μ id:=by simp only [Qz,hlt,if_true]
    refine .ref ⟨h1,⟨by rw [hμ];exact h2,h5⟩,λc hcc=>?_⟩
    rw [hμ];exact h4 c (h6 c hcc)
   ·exact undef
  ·exact undef
 ·rename_i f cs
  cases cs with
  |
   nil=>
   obtain ⟨cvs,rfl,hl,_⟩:=Jd h
   have:cvs = #[]:=by simpa using hl
   subst this;exact .imm (.func f)
  |cons=>exact undef
theorem Qo0 (hi:M.is S) {cv:Value} {v:V} (h:Rep M cv v):Rep (Qz M n (Q0 base n ks S 0 (S.take n))) cv (Qh0 base n S v):=by
 cases v with
 |
  agg cs=>
  obtain ⟨cvs,rfl,hl,ho,hr⟩:=Wk h
  exact .agg cvs _ (by simpa using hl) (λj hj=>ho j (by simpa using hj)) λj hj=>by
   rw [Z18];exact Qen hi (hr j (by simpa using hj))
 |
  func f cs=>
  obtain ⟨cvs,rfl,hl,hr⟩:=Jd h
  exact .func f cvs _ (by simpa using hl) λj hj=>by
   rw [Z18];exact Qen hi (hr j (by simpa using hj))
 |_=>exact Qen hi h
theorem Qq3 (hM:M.ok) (hi:M.is S):(Qz M n (Q0 base n ks S 0 (S.take n))).ok where
 blk id loc h:=by
  have hμ:id<n/\M.μ id=some loc:=by
   simp only [Qz] at h
   split at h
   ·exact ⟨‹_›,h⟩
   ·simp at h
  have hB:=hM.blk id loc hμ.2
  rcases normM_S (base:=base) (n:=n) (ks:=ks) hi id with h|⟨_,old,_,h⟩
  ·rw [h];trivial
  ·rw [h]
   cases hk:M.S id<;>rw [hk] at hB<;>simp only [normBlk]
   ·obtain ⟨b,o,cap,h1,h2,h3,hsh,h4⟩:=hB
    refine ⟨b,o,cap,h1,h2,h3,⟨hsh.1,by simpa [Qz] using hsh.2⟩,λj hj=>?_⟩
    obtain ⟨cv,h5,h6,h7,h8⟩:=h4 j (by simpa using hj)
    exact ⟨cv,h5,h6,by rw [Z18];exact Qen hi h7,h8⟩
   ·exact hB
   ·exact hB
   ·exact hB
   ·trivial
 inj id id' b o o' cap cap' h1 h2 h3 h4:=by
  have key:∀i,((Qz M n (Q0 base n ks S 0 (S.take n))).S i).own=true->(M.S i).own=true:=λi h=>by
   rcases normM_S (base:=base) (n:=n) (ks:=ks) hi i with e|⟨_,old,_,e⟩
   ·rw [e] at h;simp [Blk.own] at h
   ·rwa [e,Qh7] at h
  have key2:∀i l,(Qz M n (Q0 base n ks S 0 (S.take n))).μ i=some l->M.μ i=some l:=λi l h=>by
   simp only [Qz] at h
   split at h
   ·exact h
   ·simp at h
  exact hM.inj id id' b o o' cap cap' (key id h1) (key id' h2) (key2 _ _ h3) (key2 _ _ h4)
 low:=hM.low
theorem Qp1 (hb:∀id,(M0.μ id).isSome=true->id<base) (hbn:base<=n) (hi:M.is S) (hst:Step M0 M):Step M0 (Qz M n (Q0 base n ks S 0 (S.take n))) where
 size:=hst.size
 os:=hst.os
 tape:=hst.tape
 output:=hst.output
 keep:=hst.keep
 osub:=hst.osub
 own' b hlt h:=by
  refine hst.own' b hlt ?_
  obtain ⟨id,o,cap,h1,h2⟩:=h
  refine ⟨id,o,cap,?_,?_⟩
  ·rcases normM_S (base:=base) (n:=n) (ks:=ks) hi id with e|⟨_,old,_,e⟩
   ·rw [e] at h1;simp [Blk.own] at h1
   ·rwa [e,Qh7] at h1
  ·simp only [Qz] at h2
   split at h2
   ·exact h2
   ·simp at h2
 refs cv v h:=by
  obtain ⟨id,hid,hsome⟩:=Qmq h
  have hlt:=hb id hsome
  have h1:=Qvv (ks:=ks) hi hbn hlt
  refine Qaq id ?_ (λver=>?_) ?_ ?_ hid (hst.refs cv v h)
  ·simp only [Qz];rw [if_pos (by omega)]
  ·rw [h1,Qkv]
  ·rw [h1,Qij]
  ·rw [h1,Qkp]
theorem keepEnv_get (keep:List Nat):∀(env:Env) (i:Nat),(W1 keep i env).length=env.length/\∀k (h:k<(W1 keep i env).length) (h':k<env.length),(W1 keep i env)[k]=env[k]\/(W1 keep i env)[k]=.undef
 |[],i=>⟨rfl,λk h=>by simp [W1] at h⟩
 |
  v::vs,i=>by
  obtain ⟨h1,h2⟩:=keepEnv_get keep vs (i+1)
  refine ⟨by simp [W1,h1],λk h h'=>?_⟩
  cases k with
  |
   zero=>
   simp only [W1,Z41]
   split
   ·exact .inl rfl
   ·exact .inr rfl
  |succ k=>simpa [W1] using h2 k (by simpa [W1] using h) (by simpa using h')
theorem Qdb (keep:List Nat×List Nat×List Nat) (hb:∀id,(M0.μ id).isSome=true->id<base) (hbn:base<=n) (hst:Step M0 M) (hN:Now M S) {tmps:Array Value} {env:Env} (he:Qx M tmps env) :
  ∃M':Mem,M'.w=M.w/\Step M0 M'/\Now M' (norm base n keep env S).2/\Qx M' tmps (norm base n keep env S).1/\(norm base n keep env S).2.length=min n S.length:=by
 obtain ⟨M1,hf⟩:=Qb6 (keep.2.2.map λt=>env.getD t .undef) hN.ok hN.is
 have hN1:=hf.now hN
 have he1:Qx M1 tmps (immSlots keep.2.2 env S):=Qmi hN1.ok hN1.is hf.content keep.2.2 env (hf.step.env hN.ok he) λt ht=>by
  have hm:∀u∈cellsOf (env.getD t .undef),still (Wa S (keep.2.2.map λt=>env.getD t .undef)) u:=λu hu=>Qb0 _ (.inr ⟨_,List.mem_map_of_mem ht,hu⟩)
  by_cases ha:∃cs,env.getD t .undef=.agg cs
  ·obtain ⟨cs,h⟩:=ha;rw [h];trivial
  ·exact hm _ (by cases h:env.getD t .undef<;>simp [cellsOf]<;>exact (ha ⟨_,h⟩).elim)
 refine ⟨Qz M1 n (Q0 base n keep.2.1 (Wa S (keep.2.2.map λt=>env.getD t .undef)) 0 ((Wa S (keep.2.2.map λt=>env.getD t .undef)).take n)),hf.w,Qp1 hb hbn hN1.is (hst.trans hf.step),⟨Qq3 hN1.ok hN1.is,λid=>rfl,λid hid=>?_⟩,⟨?_,λt ht=>?_⟩,?_⟩
 ·simp only [norm,Qbi,(Qcu base n _ _ _ _).1,Z11,hf.len] at hid
  simp only [Qz]
  split
  ·exact hN1.fresh id (by rw [hf.len];omega)
  ·rfl
 ·simp only [norm,Qbi,Z29,(keepEnv_get _ _ _).1];exact he1.1
 ·simp only [norm,Qbi,Z18]
  have hlen:=(keepEnv_get keep.1 (immSlots keep.2.2 env S) 0).1
  have ht':t<(W1 keep.1 0 (immSlots keep.2.2 env S)).length:=by simpa [norm,Qbi] using ht
  rcases (keepEnv_get keep.1 (immSlots keep.2.2 env S) 0).2 t ht' (by omega) with h|h
  ·rw [h];exact Qo0 hN1.is (he1.2 t (by omega))
  ·rw [h];exact .imm (.undef _)
 ·simp only [norm,Qbi,(Qcu base n _ _ _ _).1,Z11,hf.len]
end
theorem Qhl {f t:Nat} {b:Blk}:(renB f t b).own=b.own:=by cases b<;>rfl
theorem Qaj {f t:Nat} {b:Blk}:(renB f t b).fix=b.fix:=by cases b<;>rfl
theorem Jo {f t:Nat} {b:Blk} (ver:Nat):contentB (renB f t b) ver=contentB b ver:=by cases b<;>rfl
theorem Jm {f t:Nat} {b:Blk}:verB (renB f t b)=verB b:=by cases b<;>rfl
section
variable {M0 M:Mem} {S:Store} {base f t:Nat}
def renM (M:Mem) (f t:Nat) (S2:Store):Mem:={M with μ:=λid=>if id=f then none else if id=t then M.μ f else M.μ id,S:=λid=>S2.getD id .dead}
theorem Qip:(renS f t S).length=S.length:=by simp [renS]
theorem Qft (hf:f<S.length) (ht:t<S.length) (hne:f≠t) (id:Nat):(renS f t S).getD id .dead=if id=f then .dead else if id=t then renB f t (S.getD f .dead) else renB f t (S.getD id .dead):=by
 unfold renS
 rw [getD_set_store (by simpa using hf)]
 by_cases h:id=f
 ·rw [if_pos h,if_pos h]
 ·rw [if_neg h,if_neg h,getD_set_store (by simpa using ht)]
  by_cases h':id=t
  ·rw [if_pos h',if_pos h']
  ·rw [if_neg h',if_neg h']
   simp only [Zl,Z75]
   cases S[id]?<;>rfl
variable (hi:M.is S) (hf:f<S.length) (ht:t<S.length) (hne:f≠t)
include hi hf ht hne
theorem renM_f:(renM M f t (renS f t S)).S f=.dead/\(renM M f t (renS f t S)).μ f=none:=by
 refine ⟨?_,by simp [renM]⟩
 show (renS f t S).getD f .dead=_
 rw [Qft hf ht hne,if_pos rfl]
theorem renM_t:(renM M f t (renS f t S)).S t=renB f t (M.S f)/\(renM M f t (renS f t S)).μ t=M.μ f:=by
 refine ⟨?_,by simp [renM,Ne.symm hne]⟩
 show (renS f t S).getD t .dead=_
 rw [Qft hf ht hne,if_neg (Ne.symm hne),if_pos rfl,hi f]
theorem J9 {id:Nat} (h1:id≠f) (h2:id≠t):(renM M f t (renS f t S)).S id=renB f t (M.S id)/\(renM M f t (renS f t S)).μ id=M.μ id:=by
 refine ⟨?_,by simp [renM,h1,h2]⟩
 show (renS f t S).getD id .dead=_
 rw [Qft hf ht hne,if_neg h1,if_neg h2,hi id]
theorem Qd9 {cv:Value} {v:V} (h:Rep M cv v):Rep (renM M f t (renS f t S)) cv (ren1 f t v):=by
 have undef:∀{M:Mem} {cv:Value},Rep M cv .undef:=.imm (.undef _)
 obtain ⟨t1,t2⟩:=renM_t hi hf ht hne
 have plain:(∀cv,¬M.Ref cv v)->(∀cs,v≠.agg cs)->(∀cs,v≠.tup cs)->(∀f cs,v≠.func f cs)->(∀t u,v≠.iface t u)->Rep0 M.O M.w cv v:=λh1 h2 h3 h4 h5=>by
  cases h with
  |imm h=>exact h
  |ref h=>exact (h1 _ h).elim
  |agg _ cs=>exact (h2 cs rfl).elim
  |tup _ cs=>exact (h3 cs rfl).elim
  |func f _ cs=>exact (h4 f cs rfl).elim
  |iface t _ u=>exact (h5 t u rfl).elim
 cases v<;>simp only [ren1]<;>try (first|exact undef|exact .imm (plain (λcv h=>h.2) (λ_ h=>by simp at h) (λ_ h=>by simp at h) (λ_ _ h=>by simp at h) (λ_ _ h=>by simp at h)))
 ·rename_i id off
  have h0:=Ww h
  split
  ·rename_i e;subst e
   refine .ref ⟨h0.1,?_⟩
   have h2:=h0.2
   simp only [Mem.Ref1,t1,t2,Qaj] at h2 ⊢
   exact h2
  ·rename_i e
   split
   ·exact undef
   ·rename_i e'
    obtain ⟨i1,i2⟩:=J9 hi hf ht hne e e'
    exact .ref (Qaq id i2 (λver=>by rw [i1,Jo]) (by rw [i1,Jm]) (by rw [i1,Qaj]) rfl h0)
 ·rename_i id ver ix off
  have h0:=Qcb h
  split
  ·rename_i e;subst e
   refine .ref ⟨h0.1,?_⟩
   have h2:=h0.2
   simp only [Mem.Ref1,verLe,t1,t2,Jo,Jm] at h2 ⊢
   exact h2
  ·rename_i e
   split
   ·exact undef
   ·rename_i e'
    obtain ⟨i1,i2⟩:=J9 hi hf ht hne e e'
    exact .ref (Qaq id i2 (λver=>by rw [i1,Jo]) (by rw [i1,Jm]) (by rw [i1,Qaj]) rfl h0)
 ·rename_i id ver
  have h0:=W8 h
  split
  ·rename_i e;subst e
   refine .ref ⟨h0.1,?_⟩
   have h2:=h0.2
   simp only [Mem.Ref1,verLe,t1,t2,Jo,Jm] at h2 ⊢
   exact h2
  ·rename_i e
   split
   ·exact undef
   ·rename_i e'
    obtain ⟨i1,i2⟩:=J9 hi hf ht hne e e'
    exact .ref (Qaq id i2 (λver=>by rw [i1,Jo]) (by rw [i1,Jm]) (by rw [i1,Qaj]) rfl h0)
 ·rename_i id ver lo len
  have h0:=Yd h
  split
  ·rename_i e;subst e
   refine .ref ⟨h0.1,?_⟩
   have h2:=h0.2
   simp only [Mem.Ref1,verLe,t1,t2,Jo,Jm] at h2 ⊢
   exact h2
  ·rename_i e
   split
   ·exact undef
   ·rename_i e'
    obtain ⟨i1,i2⟩:=J9 hi hf ht hne e e'
    exact .ref (Qaq id i2 (λver=>by rw [i1,Jo]) (by rw [i1,Jm]) (by rw [i1,Qaj]) rfl h0)
 ·rename_i g cs
  cases cs with
  |
   nil=>
   obtain ⟨cvs,rfl,hl,_⟩:=Jd h
   have:cvs = #[]:=by simpa using hl
   subst this;exact .imm (.func g)
  |cons=>exact undef
theorem Qvh {cv:Value} {v:V} (h:Rep M cv v):Rep (renM M f t (renS f t S)) cv (Qfg f t v):=by
 cases v with
 |
  agg cs=>
  obtain ⟨cvs,rfl,hl,ho,hr⟩:=Wk h
  exact .agg cvs _ (by simpa using hl) (λj hj=>ho j (by simpa using hj)) λj hj=>by
   rw [Z18];exact Qd9 hi hf ht hne (hr j (by simpa using hj))
 |
  func g cs=>
  obtain ⟨cvs,rfl,hl,hr⟩:=Jd h
  exact .func g cvs _ (by simpa using hl) λj hj=>by
   rw [Z18];exact Qd9 hi hf ht hne (hr j (by simpa using hj))
 |_=>exact Qd9 hi hf ht hne h
theorem renM_src (id:Nat):((renM M f t (renS f t S)).S id=.dead/\(renM M f t (renS f t S)).μ id=none)\/(id≠f/\(renM M f t (renS f t S)).S id=renB f t (M.S (if id=t then f else id))/\(renM M f t (renS f t S)).μ id=M.μ (if id=t then f else id)):=by
 by_cases h1:id=f
 ·subst h1;exact .inl (renM_f hi hf ht hne)
 ·refine .inr ⟨h1,?_⟩
  by_cases h2:id=t
  ·subst h2;rw [if_pos rfl];exact renM_t hi hf ht hne
  ·rw [if_neg h2];exact J9 hi hf ht hne h1 h2
theorem Qqp (hM:M.ok):(renM M f t (renS f t S)).ok where
 blk id loc h:=by
  rcases renM_src hi hf ht hne id with ⟨_,h2⟩|⟨_,h1,h2⟩
  ·rw [h2] at h;simp at h
  ·rw [h1];rw [h2] at h
   have hB:=hM.blk _ loc h
   cases hk:M.S (if id=t then f else id)<;>rw [hk] at hB<;>simp only [renB]
   ·obtain ⟨b,o,cap,h1,h2,h3,hsh,h4⟩:=hB
    refine ⟨b,o,cap,h1,h2,h3,⟨hsh.1,by simpa [renM] using hsh.2⟩,λj hj=>?_⟩
    obtain ⟨cv,h5,h6,h7,h8⟩:=h4 j (by simpa using hj)
    exact ⟨cv,h5,h6,by rw [Z18];exact Qd9 hi hf ht hne h7,h8⟩
   ·exact hB
   ·exact hB
   ·exact hB
   ·trivial
 inj id id' b o o' cap cap' h1 h2 h3 h4:=by
  rcases renM_src hi hf ht hne id with ⟨_,e⟩|⟨n1,s1,m1⟩
  ·rw [e] at h3;simp at h3
  rcases renM_src hi hf ht hne id' with ⟨_,e⟩|⟨n2,s2,m2⟩
  ·rw [e] at h4;simp at h4
  rw [s1,Qhl] at h1;rw [s2,Qhl] at h2;rw [m1] at h3;rw [m2] at h4
  have:=hM.inj _ _ b o o' cap cap' h1 h2 h3 h4
  by_cases e1:id=t
  ·by_cases e2:id'=t
   ·rw [e1,e2]
   ·rw [if_pos e1,if_neg e2] at this;exact absurd this.symm n2
  ·by_cases e2:id'=t
   ·rw [if_neg e1,if_pos e2] at this;exact absurd this n1
   ·rwa [if_neg e1,if_neg e2] at this
 low:=hM.low
theorem Quv (hb:∀id,(M0.μ id).isSome=true->id<base) (hbf:base<=f) (hbt:base<=t) (hst:Step M0 M):Step M0 (renM M f t (renS f t S)) where
 size:=hst.size
 os:=hst.os
 tape:=hst.tape
 output:=hst.output
 keep:=hst.keep
 osub:=hst.osub
 own' b hlt h:=by
  refine hst.own' b hlt ?_
  obtain ⟨id,o,cap,h1,h2⟩:=h
  rcases renM_src hi hf ht hne id with ⟨_,e⟩|⟨n1,s1,m1⟩
  ·rw [e] at h2;simp at h2
  ·exact ⟨_,o,cap,by rw [s1,Qhl] at h1;exact h1,by rw [m1] at h2;exact h2⟩
 refs cv v h:=by
  obtain ⟨id,hid,hsome⟩:=Qmq h
  have hlt:=hb id hsome
  obtain ⟨i1,i2⟩:=J9 hi hf ht hne (id:=id) (by omega) (by omega)
  exact Qaq id i2 (λver=>by rw [i1,Jo]) (by rw [i1,Jm]) (by rw [i1,Qaj]) hid (hst.refs cv v h)
end
theorem Qcy {M0:Mem} {base:Nat} (hb:∀id,(M0.μ id).isSome=true->id<base) {tmps:Array Value}:∀(mv:List (Nat×Nat)) {M:Mem} {S:Store} {env:Env},Step M0 M->Now M S->Qx M tmps env ->
  ∃M':Mem,M'.w=M.w/\Step M0 M'/\Now M' (Y4 base mv env S).2/\Qx M' tmps (Y4 base mv env S).1/\(Y4 base mv env S).2.length=S.length
 |[],M,S,env,hst,hN,he=>⟨M,rfl,hst,hN,he,rfl⟩
 |
  (s,k)::r,M,S,env,hst,hN,he=>by
  unfold Y4
  split
  ·rename_i f _
   split
   ·rename_i hc
    obtain ⟨hne,hbf,hf,ht⟩:=hc
    obtain ⟨M',h1,h2,h3,h4,h5⟩:=Qcy hb r (M:=renM M f (base+k) (renS f (base+k) S)) (S:=renS f (base+k) S) (env:=env.map (Qfg f (base+k))) (Quv hN.is hf ht hne hb hbf (by omega) hst)
     ⟨Qqp hN.is hf ht hne hN.ok,λid=>rfl,λid hid=>by
      rw [Qip] at hid
      have:=J9 hN.is hf ht hne (id:=id) (by omega) (by omega)
      rw [this.2];exact hN.fresh id hid⟩
     ⟨by rw [Z29];exact he.1,λu hu=>by
      rw [Z18];exact Qvh hN.is hf ht hne (he.2 u (by simpa using hu))⟩
    exact ⟨M',h1,h2,h3,h4,by rw [h5,Qip]⟩
   ·exact Qcy hb r hst hN he
  ·exact Qcy hb r hst hN he
def Qcz:X->Exit
 |.normal=>.normal
 |.exit i=>.exit i
 |.ret=>.ret
 |.goto l=>.goto l
def LPack.sound (G:(Env×Store->Option Out)->Env×Store->Option Out) (st:Env×Store):LPack->Prop
 |.one σ m out=>∀o,m=some o->∃N,Q6 G N st=some (out o)
 |.two σ τ m out out'=>∀o,m=some o->∃N,Q6 G N st=some (match o with | .inl o=>out o | .inr o=>out' o)
theorem orP_some {a b:Option LPack} {p:LPack} (h:orP a b=some p):a=some p\/b=some p:=by
 cases a with
 |none=>exact .inr h
 |some q=>exact .inl h
def LoopsOK (C:Ctx) (I:InlP) (fid base:Nat) (body:Code):Prop:=
 ∀id b,(id,b)∈loopList body->∀st p,C.L fid id base st=some p->p.sound (C.loopG (I Out) fid id base b st.2.length) st
section
variable {P:Program} {C:Ctx} {I:InlP} {M0:Mem} {base fid:Nat}
def Y1 (M0:Mem) (base:Nat) (a:Act) (e:X) (env':Env) (S':Store) (Q:Exit->Act->World->Prop):Prop:=
 ∀a' M',Step M0 M'->Now M' S'->Qx M' a'.tmps env'->a'.defers=a.defers->base<=S'.length->Q (Qcz e) a' M'.w
def Yi (P:Program) (C:Ctx) (I:InlP) (M0:Mem) (fid base:Nat) (c:Code):Prop:=
 ∀
  (env:Env) (S:Store) (a:Act) (M:Mem) (Q:Exit->Act->World->Prop) (e:X) (env':Env) (S':Store),Step M0 M->Now M S->Qx M a.tmps env->base<=S.length ->
  C.evK (I Out) fid base c env S KK=some (e,env',S')->Y1 M0 base a e env' S' Q->c.wp P Q a M.w
theorem Ql1 (hC:Q8 P C) (hI:InlOK P C I) (id:Nat) (ops:Array Oper) (draw:Bool):Yi P C I M0 fid base (.region id ops draw):=by
 intro env S a M Q e env' S' hst hN he hbl h hQ
 simp only [Ctx.evK] at h
 cases draw<;>simp only [Zd,Zc] at h
 ·rw [Qco hI] at h
  cases hev:C.evOps (I (Env×Store)) false ops ops.toList env S λe s=>some (e,s) with
  |none=>rw [hev] at h;simp at h
  |
   some p=>
   rw [hev] at h
   simp only [Zb,KK,Zs,Z3] at h
   obtain ⟨rfl,rfl,rfl⟩:=h
   refine wp_region (Qgp hC hI ops.toList (List.range ops.size) env S a M ?_ hN he hev λa' M' h1 h2 h3 h4 h5=>hQ a' M' (hst.trans h1) h2 h3 h4 (by omega))
   apply List.ext_getElem
   ·simp
   ·intro i h1 h2
    have:i<ops.size:=by simpa using h1
    simp [this]
 ·split at h
  case isFalse=>simp at h
  rename_i hs
  rw [Qce hI] at h
  cases hev:C.evOpsD (I (Env×Store)) ops (C.draws fid id) ops.toList 0 [] env S λe s=>some (e,s) with
  |none=>rw [hev] at h;simp at h
  |
   some p=>
   rw [hev] at h
   simp only [Zb,KK,Zs,Z3] at h
   obtain ⟨rfl,rfl,rfl⟩:=h
   exact Qoq hC hI hN he hs hev λa' M' h1 h2 h3 h4 h5=>hQ a' M' (hst.trans h1) h2 h3 h4 (by omega)
theorem Qcp {a:Act} {id:Nat} {x:X} {env1:Env} {S1:Store} {Q:Exit->Act->World->Prop} {e:X} {env':Env} {S':Store} (h:Kont.block id KK x env1 S1=some (e,env',S')) (hQ:Y1 M0 base a e env' S' Q):Y1 M0 base a x env1 S1 (Exit.inBlock id Q):=by
 intro a' M' h1 h2 h3 h4 h5
 cases x<;>simp only [Kont.block] at h
 ·simp only [KK,Zs,Z3] at h
  obtain ⟨rfl,rfl,rfl⟩:=h
  exact hQ a' M' h1 h2 h3 h4 h5
 ·rename_i i
  split at h
  ·rename_i hi
   simp only [KK,Zs,Z3] at h
   obtain ⟨rfl,rfl,rfl⟩:=h
   simp only [Qcz,Exit.inBlock,hi,if_true]
   exact hQ a' M' h1 h2 h3 h4 h5
  ·rename_i hi
   simp only [KK,Zs,Z3] at h
   obtain ⟨rfl,rfl,rfl⟩:=h
   simp only [Qcz,Exit.inBlock,hi,if_false]
   exact hQ a' M' h1 h2 h3 h4 h5
 ·simp only [KK,Zs,Z3] at h
  obtain ⟨rfl,rfl,rfl⟩:=h
  exact hQ a' M' h1 h2 h3 h4 h5
 ·simp only [KK,Zs,Z3] at h
  obtain ⟨rfl,rfl,rfl⟩:=h
  exact hQ a' M' h1 h2 h3 h4 h5
theorem Yp (hI:InlOK P C I) {id:Nat} {b:Code} (hb:Yi P C I M0 fid base b) {env:Env} {S:Store} {a:Act} {M:Mem} {Q:Exit->Act->World->Prop} {e:X} {env':Env} {S':Store} (hst:Step M0 M) (hN:Now M S) (he:Qx M a.tmps env) (hbl:base<=S.length)
  (h:C.evK (I Out) fid base b env S (Kont.block id KK)=some (e,env',S')) (hQ:Y1 M0 base a e env' S' Q):(Code.block id b).wp P Q a M.w:=by
 rw [Qv hI] at h
 simp only [Bk,Z7] at h
 obtain ⟨⟨x,env1,S1⟩,h1,h2⟩:=h
 exact wp_block (hb env S a M _ x env1 S1 hst hN he hbl h1 (Qcp h2 hQ))
theorem Qmm (hI:InlOK P C I) (hM0:∀id,(M0.μ id).isSome=true->id<base) {id n:Nat} (hbn:base<=n) {b:Code} (hb:Yi P C I M0 fid base b):∀(N:Nat) (env:Env) (S:Store) (a:Act) (M:Mem) (Q:Exit->Act->World->Prop) (e:X) (env':Env) (S':Store),Step M0 M->Now M S->Qx M a.tmps env->base<=S.length ->
  Q6 (C.loopG (I Out) fid id base b n) N (env,S)=some (e,env',S')->Y1 M0 base a e env' S' Q->Code.rounds P b Q N a M.w
 |0,env,S,a,M,Q,e,env',S',hst,hN,he,hbl,h,hQ=>by simp [Q6] at h
 |
  N+1,env,S,a,M,Q,e,env',S',hst,hN,he,hbl,h,hQ=>by
  simp only [Q6,Ctx.loopG,Ctx.loopPI] at h
  rw [Qv hI] at h
  simp only [Bk,Z7] at h
  obtain ⟨⟨x,env1,S1⟩,h1,h2⟩:=h
  rw [rounds_succ]
  refine hb env S a M _ x env1 S1 hst hN he hbl h1 λa' M' h3 h4 h5 h6 h7=>?_
  cases x with
  |
   normal=>
   obtain ⟨M3,k1,k2,k3,k4,k5⟩:=Qcy hM0 (C.moves fid id) h3 h4 h5
   obtain ⟨M2,g1,g2,g3,g4,g5⟩:=Qdb (C.keep fid id) hM0 hbn k2 k3 k4
   show Code.rounds P b Q N a' M'.w
   rw [<-k1,<-g1]
   exact Qmm hI hM0 hbn hb N _ _ a' M2 Q e env' S' g2 g3 g4 (by rw [g5,k5];omega) h2 λa3 M3 k1 k2 k3 k4 k5=>hQ a3 M3 k1 k2 k3 (by rw [k4,h6]) k5
  |
   exit i=>
   obtain ⟨M2,g1,g2,g3,g4,g5⟩:=Qdb (C.keepE fid id) hM0 hbn h3 h4 h5
   simp only [Zs,Z3] at h2
   obtain ⟨rfl,h2⟩:=h2
   have e1:(norm base n (C.keepE fid id) env1 S1).1=env':=congrArg Prod.fst h2
   have e2:(norm base n (C.keepE fid id) env1 S1).2=S':=congrArg Prod.snd h2
   rw [e1] at g4;rw [e2] at g3 g5
   show Q (.exit i) a' M'.w
   rw [<-g1]
   exact hQ a' M2 g2 g3 g4 h6 (by rw [g5];omega)
  |
   ret=>
   obtain ⟨M2,g1,g2,g3,g4,g5⟩:=Qdb (C.keepR fid id) hM0 hbn h3 h4 h5
   simp only [Zs,Z3] at h2
   obtain ⟨rfl,h2⟩:=h2
   have e1:(norm base n (C.keepR fid id) env1 S1).1=env':=congrArg Prod.fst h2
   have e2:(norm base n (C.keepR fid id) env1 S1).2=S':=congrArg Prod.snd h2
   rw [e1] at g4;rw [e2] at g3 g5
   show Q .ret a' M'.w
   rw [<-g1]
   exact hQ a' M2 g2 g3 g4 h6 (by rw [g5];omega)
  |goto l=>simp at h2
def LPack.run (id:Nat):LPack->Option Out
 |.one _ m out=>m.bind λo=>Kont.block id KK (out o).1 (out o).2.1 (out o).2.2
 |
  .two _ _ m out out'=>m.bind λo=>match o with
  |.inl o=>Kont.block id KK (out o).1 (out o).2.1 (out o).2.2
  |.inr o=>Kont.block id KK (out' o).1 (out' o).2.1 (out' o).2.2
theorem LPack.sound_some {G:(Env×Store->Option Out)->Env×Store->Option Out} {st:Env×Store} {p:LPack} (h:p.sound G st) {id:Nat} {e:X} {env':Env} {S':Store}
  (hr:p.run id=some (e,env',S')) :
  ∃N x env1 S1,Q6 G N st=some (x,env1,S1)/\Kont.block id KK x env1 S1=some (e,env',S'):=by
 cases p with
 |
  one σ m out=>
  simp only [LPack.run,Z7] at hr
  obtain ⟨o,h1,h2⟩:=hr
  obtain ⟨N,hN⟩:=h o h1
  exact ⟨N,_,_,_,hN,h2⟩
 |
  two σ τ m out out'=>
  simp only [LPack.run,Z7] at hr
  obtain ⟨o,h1,h2⟩:=hr
  obtain ⟨N,hN⟩:=h o h1
  cases o with
  |inl o=>exact ⟨N,_,_,_,hN,h2⟩
  |inr o=>exact ⟨N,_,_,_,hN,h2⟩
theorem Qnn (hI:InlOK P C I) {body:Code} (hL:LoopsOK C I fid base body) (hM0:∀id,(M0.μ id).isSome=true->id<base) {id:Nat} {b:Code} (hb:Yi P C I M0 fid base b) (hm:(id,b)∈loopList body):∀(n:Nat) (env:Env) (S:Store) (e:X) (env':Env) (S':Store),
  J5 (λ(rec:Env×Store->Option Out) st=>C.evK (I Out) fid base b st.1 st.2 (Kont.seq (λenv' S'=>rec (env',S')) (Kont.block id KK)))
   (λst=>match C.L fid id base (norm base st.2.length (C.keep fid id) st.1 st.2) with
   |some (.one _ m out)=>m.bind λo=>Kont.block id KK (out o).1 (out o).2.1 (out o).2.2
   |
    some (.two _ _ m out out')=>m.bind λo=>match o with
    |.inl o=>Kont.block id KK (out o).1 (out o).2.1 (out o).2.2
    |.inr o=>Kont.block id KK (out' o).1 (out' o).2.1 (out' o).2.2
   |none=>none) n (env,S)=some (e,env',S') ->
  ∃N,∀(a:Act) (M:Mem) (Q:Exit->Act->World->Prop),Step M0 M->Now M S->Qx M a.tmps env->base<=S.length->Y1 M0 base a e env' S' Q->Code.rounds P b (Exit.inBlock id Q) N a M.w
 |
  0,env,S,e,env',S',h=>by
  simp only [J5] at h
  have hp:∃p,C.L fid id base (norm base S.length (C.keep fid id) env S)=some p/\p.run id=some (e,env',S'):=by
   cases hl:C.L fid id base (norm base S.length (C.keep fid id) env S) with
   |none=>rw [hl] at h;simp at h
   |some p=>rw [hl] at h;exact ⟨p,rfl,by cases p<;>exact h⟩
  obtain ⟨p,hp,hr⟩:=hp
  obtain ⟨N,x,env1,S1,h1,h2⟩:=LPack.sound_some (hL id b hm _ p hp) hr
  refine ⟨N,λa M Q hst hN he hbl hQ=>?_⟩
  obtain ⟨M2,g1,g2,g3,g4,g5⟩:=Qdb (n:=S.length) (C.keep fid id) hM0 hbl hst hN he
  rw [g5,Nat.min_self] at h1
  rw [<-g1]
  exact Qmm hI hM0 hbl hb N _ _ a M2 _ x env1 S1 g2 g3 g4 (by rw [g5];omega) h1 (Qcp h2 hQ)
 |
  n+1,env,S,e,env',S',h=>by
  simp only [J5] at h
  rw [Qv hI] at h
  simp only [Bk,Z7] at h
  obtain ⟨⟨x,env1,S1⟩,h1,h2⟩:=h
  cases x with
  |
   normal=>
   obtain ⟨N,hN'⟩:=Qnn hI hL hM0 hb hm n env1 S1 e env' S' h2
   refine ⟨N+1,λa M Q hst hN he hbl hQ=>?_⟩
   rw [rounds_succ]
   refine hb env S a M _ _ env1 S1 hst hN he hbl h1 λa' M' h3 h4 h5 h6 h7=>?_
   exact hN' a' M' Q h3 h4 h5 h7 λa2 M2 g1 g2 g3 g4 g5=>hQ a2 M2 g1 g2 g3 (by rw [g4,h6]) g5
  |
   exit i=>
   refine ⟨1,λa M Q hst hN he hbl hQ=>?_⟩
   rw [rounds_succ]
   refine hb env S a M _ _ env1 S1 hst hN he hbl h1 λa' M' h3 h4 h5 h6 h7=>?_
   exact Qcp (a:=a) (show Kont.block id KK (.exit i) env1 S1=_ from h2) hQ a' M' h3 h4 h5 h6 h7
  |
   ret=>
   refine ⟨1,λa M Q hst hN he hbl hQ=>?_⟩
   rw [rounds_succ]
   refine hb env S a M _ _ env1 S1 hst hN he hbl h1 λa' M' h3 h4 h5 h6 h7=>?_
   exact Qcp (a:=a) (show Kont.block id KK .ret env1 S1=_ from h2) hQ a' M' h3 h4 h5 h6 h7
  |
   goto l=>
   refine ⟨1,λa M Q hst hN he hbl hQ=>?_⟩
   rw [rounds_succ]
   refine hb env S a M _ _ env1 S1 hst hN he hbl h1 λa' M' h3 h4 h5 h6 h7=>?_
   exact Qcp (a:=a) (show Kont.block id KK (.goto l) env1 S1=_ from h2) hQ a' M' h3 h4 h5 h6 h7
theorem Quk (hI:InlOK P C I) {body:Code} (hL:LoopsOK C I fid base body) (hM0:∀id,(M0.μ id).isSome=true->id<base) {id:Nat} {b:Code} (hb:Yi P C I M0 fid base b) (hm:(id,b)∈loopList body):Yi P C I M0 fid base (.block id (.loop b)):=by
 intro env S a M Q e env' S' hst hN he hbl h hQ
 simp only [Ctx.evK] at h
 obtain ⟨N,hN'⟩:=Qnn hI hL hM0 hb hm _ env S e env' S' h
 exact wp_block (wp_loop_rounds N (hN' a M Q hst hN he hbl hQ))
theorem Wb (hC:Q8 P C) (hI:InlOK P C I) {body:Code} (hL:LoopsOK C I fid base body) (hM0:∀id,(M0.μ id).isSome=true->id<base):∀(c:Code),(∀p∈loopList c,p∈loopList body)->Yi P C I M0 fid base c
 |
  .skip,hsub=>λenv S a M Q e env' S' hst hN he hbl h hQ=>by
  simp only [Ctx.evK,KK,Zs,Z3] at h
  obtain ⟨rfl,rfl,rfl⟩:=h
  exact wp_skip (hQ a M hst hN he rfl hbl)
 |
  .ret,hsub=>λenv S a M Q e env' S' hst hN he hbl h hQ=>by
  simp only [Ctx.evK,KK,Zs,Z3] at h
  obtain ⟨rfl,rfl,rfl⟩:=h
  exact wp_ret (hQ a M hst hN he rfl hbl)
 |
  .exit id,hsub=>λenv S a M Q e env' S' hst hN he hbl h hQ=>by
  simp only [Ctx.evK,KK,Zs,Z3] at h
  obtain ⟨rfl,rfl,rfl⟩:=h
  exact wp_exit (hQ a M hst hN he rfl hbl)
 |.region id ops draw,hsub=>Ql1 hC hI id ops draw
 |
  .seq x y,hsub=>λenv S a M Q e env' S' hst hN he hbl h hQ=>by
  simp only [Ctx.evK] at h
  rw [Qv hI] at h
  simp only [Bk,Z7] at h
  obtain ⟨⟨e1,env1,S1⟩,h1,h2⟩:=h
  refine wp_seq (Wb hC hI hL hM0 x (λp hp=>hsub p (by simp [loopList,hp])) env S a M _ e1 env1 S1 hst hN he hbl h1 λa' M' h3 h4 h5 h6 h7=>?_)
  cases e1 with
  |normal=>exact Wb hC hI hL hM0 y (λp hp=>hsub p (by simp [loopList,hp])) env1 S1 a' M' Q e env' S' h3 h4 h5 h7 h2 λa2 M2 g1 g2 g3 g4 g5=>hQ a2 M2 g1 g2 g3 (by rw [g4,h6]) g5
  |
   exit i=>
   simp only [Kont.seq,KK,Zs,Z3] at h2
   obtain ⟨rfl,rfl,rfl⟩:=h2
   exact hQ a' M' h3 h4 h5 h6 h7
  |
   ret=>
   simp only [Kont.seq,KK,Zs,Z3] at h2
   obtain ⟨rfl,rfl,rfl⟩:=h2
   exact hQ a' M' h3 h4 h5 h6 h7
  |
   goto l=>
   simp only [Kont.seq,KK,Zs,Z3] at h2
   obtain ⟨rfl,rfl,rfl⟩:=h2
   exact hQ a' M' h3 h4 h5 h6 h7
 |
  .cond c t f,hsub=>λenv S a M Q e env' S' hst hN he hbl h hQ=>by
  simp only [Ctx.evK] at h
  split at h
  case h_2=>simp at h
  rename_i b hb
  have hc:=Qhp C he 0 c
  rw [hb] at hc
  refine wp_cond (Jc hc) ?_
  cases b<;>simp only [Zd,Zc] at h
  ·exact Wb hC hI hL hM0 f (λp hp=>hsub p (by simp [loopList,hp])) env S a M Q e env' S' hst hN he hbl h hQ
  ·exact Wb hC hI hL hM0 t (λp hp=>hsub p (by simp [loopList,hp])) env S a M Q e env' S' hst hN he hbl h hQ
 |.block id (.loop b),hsub=>Quk hI hL hM0 (Wb hC hI hL hM0 b λp hp=>hsub p (by simp [loopList,hp])) (hsub _ (by simp [loopList]))
 |.block id .skip,hsub=>λenv S a M Q e env' S' hst hN he hbl h hQ=>Yp (fid:=fid) hI (Wb hC hI hL hM0 .skip λp hp=>by simp [loopList] at hp) hst hN he hbl (show C.evK (I Out) fid base .skip env S (Kont.block id KK)=some (e,env',S') from h) hQ
 |.block id (.region i ops draw),hsub=>λenv S a M Q e env' S' hst hN he hbl h hQ=>Yp (fid:=fid) hI (Ql1 hC hI i ops draw) hst hN he hbl (show C.evK (I Out) fid base (.region i ops draw) env S (Kont.block id KK)=some (e,env',S') from h) hQ
 |.block id (.seq x y),hsub=>λenv S a M Q e env' S' hst hN he hbl h hQ=>Yp (fid:=fid) hI (Wb hC hI hL hM0 (.seq x y) hsub) hst hN he hbl (show C.evK (I Out) fid base (.seq x y) env S (Kont.block id KK)=some (e,env',S') from h) hQ
 |.block id (.cond x y z),hsub=>λenv S a M Q e env' S' hst hN he hbl h hQ=>Yp (fid:=fid) hI (Wb hC hI hL hM0 (.cond x y z) hsub) hst hN he hbl (show C.evK (I Out) fid base (.cond x y z) env S (Kont.block id KK)=some (e,env',S') from h) hQ
 |.block id (.block i b),hsub=>λenv S a M Q e env' S' hst hN he hbl h hQ=>Yp (fid:=fid) hI (Wb hC hI hL hM0 (.block i b) hsub) hst hN he hbl (show C.evK (I Out) fid base (.block i b) env S (Kont.block id KK)=some (e,env',S') from h) hQ
 |.block id (.exit i),hsub=>λenv S a M Q e env' S' hst hN he hbl h hQ=>Yp (fid:=fid) hI (Wb hC hI hL hM0 (.exit i) λp hp=>by simp [loopList] at hp) hst hN he hbl (show C.evK (I Out) fid base (.exit i) env S (Kont.block id KK)=some (e,env',S') from h) hQ
 |.block id .ret,hsub=>λenv S a M Q e env' S' hst hN he hbl h hQ=>Yp (fid:=fid) hI (Wb hC hI hL hM0 .ret λp hp=>by simp [loopList] at hp) hst hN he hbl (show C.evK (I Out) fid base .ret env S (Kont.block id KK)=some (e,env',S') from h) hQ
 |.block id (.rangeFunc ..),hsub=>λenv S a M Q e env' S' hst hN he hbl h hQ=>by simp [Ctx.evK] at h
 |.block id (.scope c),hsub=>λenv S a M Q e env' S' hst hN he hbl h hQ=>Yp (fid:=fid) hI (Wb hC hI hL hM0 (.scope c) hsub) hst hN he hbl (show C.evK (I Out) fid base (.scope c) env S (Kont.block id KK)=some (e,env',S') from h) hQ
 |.block id (.label l),hsub=>λenv S a M Q e env' S' hst hN he hbl h hQ=>Yp (fid:=fid) hI (Wb hC hI hL hM0 (.label l) λp hp=>by simp [loopList] at hp) hst hN he hbl (show C.evK (I Out) fid base (.label l) env S (Kont.block id KK)=some (e,env',S') from h) hQ
 |.block id (.goto l),hsub=>λenv S a M Q e env' S' hst hN he hbl h hQ=>Yp (fid:=fid) hI (Wb hC hI hL hM0 (.goto l) λp hp=>by simp [loopList] at hp) hst hN he hbl (show C.evK (I Out) fid base (.goto l) env S (Kont.block id KK)=some (e,env',S') from h) hQ
 |.block id (.refuse ..),hsub=>λenv S a M Q e env' S' hst hN he hbl h hQ=>by simp [Ctx.evK] at h
 |.loop _,hsub=>λenv S a M Q e env' S' hst hN he hbl h hQ=>by simp [Ctx.evK] at h
 |.rangeFunc ..,hsub=>λenv S a M Q e env' S' hst hN he hbl h hQ=>by simp [Ctx.evK] at h
 |
  .scope c,hsub=>λenv S a M Q e env' S' hst hN he hbl h hQ=>by
  simp only [Ctx.evK] at h
  rw [Qv hI] at h
  simp only [Bk,Z7] at h
  obtain ⟨⟨x,env1,S1⟩,h1,h2⟩:=h
  refine wp_scope_straight (Wb hC hI hL hM0 c hsub env S a M _ x env1 S1 hst hN he hbl h1 λa' M' h3 h4 h5 h6 h7=>?_)
  cases x<;>simp only [Kont.noGoto,KK,Zs,Z3] at h2<;>try (simp at h2;done)
  all_goals
   obtain ⟨rfl,rfl,rfl⟩:=h2
   exact hQ a' M' h3 h4 h5 h6 h7
 |
  .label l,hsub=>λenv S a M Q e env' S' hst hN he hbl h hQ=>by
  simp only [Ctx.evK,KK,Zs,Z3] at h
  obtain ⟨rfl,rfl,rfl⟩:=h
  exact wp_label (hQ a M hst hN he rfl hbl)
 |
  .goto l,hsub=>λenv S a M Q e env' S' hst hN he hbl h hQ=>by
  simp only [Ctx.evK,KK,Zs,Z3] at h
  obtain ⟨rfl,rfl,rfl⟩:=h
  exact wp_goto (hQ a M hst hN he rfl hbl)
 |.refuse _,hsub=>λenv S a M Q e env' S' hst hN he hbl h hQ=>by simp [Ctx.evK] at h
termination_by c=>SizeOf.sizeOf c
def Qa7 (P:Program) (rest:Code) (Q:Exit->Act->World->Prop):Nat->Exit->Act->World->Prop
 |0,.goto _,_,_=>False
 |n+1,.goto l,a,w=>l=0/\rest.wp P (Qa7 P rest Q n) a w
 |_,e,a,w=>Q e a w
theorem Qpf {rest:Code} {Q:Exit->Act->World->Prop} {n:Nat} {e:Exit} {a:Act} {w:World} (he:∀l,e≠.goto l) (h:Q e a w):Qa7 P rest Q n e a w:=by
 cases n<;>cases e<;>first|exact h|exact (he _ rfl).elim
theorem Qbv {rest:Code} {Q:Exit->Act->World->Prop} {n:Nat} {e:Exit} {a:Act} {w:World} (he:∀l,e≠.goto l) (h:Qa7 P rest Q n e a w):Q e a w:=by
 cases n<;>cases e<;>first|exact h|exact (he _ rfl).elim
theorem Qoe {c rest:Code} {Q:Exit->Act->World->Prop} (hf:findLabel c 0=some rest) {n:Nat} {a:Act} {w:World} (h:c.wp P (Qa7 P rest Q n) a w):(Code.scope c).wp P Q a w:=by
 intro b k cs
 have hg:gotoIn 0 (.inScope c::k)=some (.code rest :: .inScope c::k):=by simp [gotoIn,hf]
 have key:∀n a w,rest.wp P (Qa7 P rest Q n) a w->∃e a' w',Q e a' w'/\Arrives P (lone (b.at a (.code rest :: .inScope c::k)) cs w) b k cs e a' w':=by
  intro n
  induction n with
  |
   zero=>
   intro a w h
   obtain ⟨e,a₁,w₁,hq,harr⟩:=h b (.inScope c::k) cs
   cases e with
   |normal=>exact ⟨.normal,a₁,w₁,hq,Steps.trans harr (.one step_inScope)⟩
   |exit id=>exact ⟨.exit id,a₁,w₁,hq,λk' hk=>harr k' (by simp [exitTo,hk])⟩
   |goto l'=>exact hq.elim
   |ret=>exact ⟨_,a₁,w₁,hq,harr⟩
   |panic ch=>exact ⟨_,a₁,w₁,hq,harr⟩
   |outgrown=>exact ⟨_,a₁,w₁,hq,harr⟩
  |
   succ n ih=>
   intro a w h
   obtain ⟨e,a₁,w₁,hq,harr⟩:=h b (.inScope c::k) cs
   cases e with
   |normal=>exact ⟨.normal,a₁,w₁,hq,Steps.trans harr (.one step_inScope)⟩
   |exit id=>exact ⟨.exit id,a₁,w₁,hq,λk' hk=>harr k' (by simp [exitTo,hk])⟩
   |
    goto l'=>
    obtain ⟨rfl,hJ⟩:=hq
    obtain ⟨e₂,a₂,w₂,hq₂,harr₂⟩:=ih a₁ w₁ hJ
    exact ⟨e₂,a₂,w₂,hq₂,.of_steps (harr _ hg) harr₂⟩
   |ret=>exact ⟨_,a₁,w₁,hq,harr⟩
   |panic ch=>exact ⟨_,a₁,w₁,hq,harr⟩
   |outgrown=>exact ⟨_,a₁,w₁,hq,harr⟩
 obtain ⟨e,a₁,w₁,hq,harr⟩:=h b (.inScope c::k) cs
 cases e with
 |normal=>exact ⟨.normal,a₁,w₁,Qbv (by simp) hq,.head step_scope (Steps.trans harr (.one step_inScope))⟩
 |exit id=>exact ⟨.exit id,a₁,w₁,Qbv (by simp) hq,λk' hk=>.head step_scope (harr k' (by simp [exitTo,hk]))⟩
 |
  goto l'=>
  cases n with
  |zero=>exact hq.elim
  |
   succ n=>
   obtain ⟨rfl,hJ⟩:=hq
   obtain ⟨e₂,a₂,w₂,hq₂,harr₂⟩:=key n a₁ w₁ hJ
   exact ⟨e₂,a₂,w₂,hq₂,.of_steps (.head step_scope (harr _ hg)) harr₂⟩
 |ret=>exact ⟨_,a₁,w₁,Qbv (by simp) hq,.of_steps (.one step_scope) harr⟩
 |panic ch=>exact ⟨_,a₁,w₁,Qbv (by simp) hq,.of_steps (.one step_scope) harr⟩
 |outgrown=>exact ⟨_,a₁,w₁,Qbv (by simp) hq,.of_steps (.one step_scope) harr⟩
theorem Qs5 (hI:InlOK P C I) {c rest:Code} (hr:Yi P C I M0 fid base rest) (hf:findLabel c 0=some rest):∀(n:Nat) (d:Code),Yi P C I M0 fid base d->∀(env:Env) (S:Store) (a:Act) (M:Mem) (Q:Exit->Act->World->Prop) (e:X) (env':Env) (S':Store),Step M0 M->Now M S->Qx M a.tmps env->base<=S.length ->
  C.evK (I Out) fid base d env S (C.gotoK (I Out) fid base c KK n)=some (e,env',S')->Y1 M0 base a e env' S' Q->d.wp P (Qa7 P rest Q n) a M.w:=by
 intro n
 induction n with
 |
  zero=>
  intro d hd env S a M Q e env' S' hst hN he hbl h hQ
  rw [Qv hI] at h
  simp only [Bk,Z7] at h
  obtain ⟨⟨x,env1,S1⟩,h1,h2⟩:=h
  refine hd env S a M _ x env1 S1 hst hN he hbl h1 λa' M' h3 h4 h5 h6 h7=>?_
  cases x<;>simp only [Ctx.gotoK,KK,Zs,Z3] at h2<;>try (simp at h2;done)
  all_goals
   obtain ⟨rfl,rfl,rfl⟩:=h2
   exact Qpf (by simp [Qcz]) (hQ a' M' h3 h4 h5 h6 h7)
 |
  succ n ih=>
  intro d hd env S a M Q e env' S' hst hN he hbl h hQ
  rw [Qv hI] at h
  simp only [Bk,Z7] at h
  obtain ⟨⟨x,env1,S1⟩,h1,h2⟩:=h
  refine hd env S a M _ x env1 S1 hst hN he hbl h1 λa' M' h3 h4 h5 h6 h7=>?_
  cases x with
  |
   goto l=>
   simp only [Ctx.gotoK,hf] at h2
   split at h2
   case isFalse=>simp at h2
   rename_i hl
   exact ⟨hl,ih rest hr env1 S1 a' M' Q e env' S' h3 h4 h5 h7 h2 λa2 M2 g1 g2 g3 g4 g5=>hQ a2 M2 g1 g2 g3 (by rw [g4,h6]) g5⟩
  |
   normal=>
   simp only [Ctx.gotoK,KK,Zs,Z3] at h2
   obtain ⟨rfl,rfl,rfl⟩:=h2
   exact hQ a' M' h3 h4 h5 h6 h7
  |
   exit i=>
   simp only [Ctx.gotoK,KK,Zs,Z3] at h2
   obtain ⟨rfl,rfl,rfl⟩:=h2
   exact hQ a' M' h3 h4 h5 h6 h7
  |
   ret=>
   simp only [Ctx.gotoK,KK,Zs,Z3] at h2
   obtain ⟨rfl,rfl,rfl⟩:=h2
   exact hQ a' M' h3 h4 h5 h6 h7
theorem Qhi:∀(c:Code) {l:Nat} {rest:Code},findLabel c l=some rest->∀p∈loopList rest,p∈loopList c
 |
  .seq x y,l,rest,h,p,hp=>by
  unfold findLabel at h
  split at h
  ·rename_i r hr
   simp only [Zs] at h;subst h
   simp only [loopList,Z32] at hp ⊢
   exact hp.imp (Qhi x hr p) _root_.id
  ·simp only [loopList,Z32];exact .inr (Qhi y h p hp)
 |
  .label l',l,rest,h,p,hp=>by
  unfold findLabel at h
  split at h
  ·simp only [Zs] at h;subst h;simp [loopList] at hp
  ·simp at h
 |.skip,_,_,h,_,_=>by simp [findLabel] at h
 |.region ..,_,_,h,_,_=>by simp [findLabel] at h
 |.cond ..,_,_,h,_,_=>by simp [findLabel] at h
 |.block ..,_,_,h,_,_=>by simp [findLabel] at h
 |.loop ..,_,_,h,_,_=>by simp [findLabel] at h
 |.rangeFunc ..,_,_,h,_,_=>by simp [findLabel] at h
 |.scope ..,_,_,h,_,_=>by simp [findLabel] at h
 |.goto ..,_,_,h,_,_=>by simp [findLabel] at h
 |.exit ..,_,_,h,_,_=>by simp [findLabel] at h
 |.ret,_,_,h,_,_=>by simp [findLabel] at h
 |.refuse ..,_,_,h,_,_=>by simp [findLabel] at h
theorem Qlt (hC:Q8 P C) (hI:InlOK P C I) {body:Code} (hL:LoopsOK C I fid base body) (hM0:∀id,(M0.μ id).isSome=true->id<base) {c:Code} (hsub:∀p∈loopList c,p∈loopList body) (env:Env) (S:Store) (a:Act) (M:Mem) (Q:Exit->Act->World->Prop) (e:X) (env':Env) (S':Store) (hst:Step M0 M) (hN:Now M S) (he:Qx M a.tmps env) (hbl:base<=S.length)
  (h:C.evS (I Out) fid base c env S KK=some (e,env',S')) (hQ:Y1 M0 base a e env' S' Q):(Code.scope c).wp P Q a M.w:=by
 unfold Ctx.evS at h
 have hc:Yi P C I M0 fid base c:=Wb hC hI hL hM0 c hsub
 cases hf:findLabel c 0 with
 |
  some rest=>
  have hr:Yi P C I M0 fid base rest:=Wb hC hI hL hM0 rest (λp hp=>hsub p (Qhi c hf p hp))
  exact Qoe hf (Qs5 hI hr hf _ c hc env S a M Q e env' S' hst hN he hbl h hQ)
 |
  none=>
  refine wp_scope_straight ?_
  rw [Qv hI] at h
  simp only [Bk,Z7] at h
  obtain ⟨⟨x,env1,S1⟩,h1,h2⟩:=h
  refine hc env S a M _ x env1 S1 hst hN he hbl h1 λa' M' h3 h4 h5 h6 h7=>?_
  generalize C.unroll fid 1000000=n at h2
  cases x with
  |goto l=>cases n<;>simp [Ctx.gotoK,hf] at h2
  |
   normal=>
   cases n<;>(simp only [Ctx.gotoK,KK,Zs,Z3] at h2;obtain ⟨rfl,rfl,rfl⟩:=h2;exact hQ a' M' h3 h4 h5 h6 h7)
  |
   exit i=>
   cases n<;>(simp only [Ctx.gotoK,KK,Zs,Z3] at h2;obtain ⟨rfl,rfl,rfl⟩:=h2;exact hQ a' M' h3 h4 h5 h6 h7)
  |
   ret=>
   cases n<;>(simp only [Ctx.gotoK,KK,Zs,Z3] at h2;obtain ⟨rfl,rfl,rfl⟩:=h2;exact hQ a' M' h3 h4 h5 h6 h7)
theorem Qus (hC:Q8 P C) (hI:InlOK P C I) {body:Code} (hL:LoopsOK C I fid base body) (hM0:∀id,(M0.μ id).isSome=true->id<base) (env:Env) (S:Store) (a:Act) (M:Mem) (Q:Exit->Act->World->Prop) (e:X) (env':Env) (S':Store) (hst:Step M0 M) (hN:Now M S) (he:Qx M a.tmps env) (hbl:base<=S.length)
  (h:C.evB (I Out) fid base body env S KK=some (e,env',S')) (hQ:Y1 M0 base a e env' S' Q):body.wp P Q a M.w:=by
 unfold Ctx.evB at h
 split at h
 ·exact Qlt hC hI hL hM0 (λp hp=>by simpa [loopList] using hp) env S a M Q e env' S' hst hN he hbl h hQ
 ·rename_i x c
  rw [Qv hI] at h
  simp only [Bk,Z7] at h
  obtain ⟨⟨e1,env1,S1⟩,h1,h2⟩:=h
  refine wp_seq (Wb hC hI hL hM0 x (λp hp=>by simp [loopList,hp]) env S a M _ e1 env1 S1 hst hN he hbl h1 λa' M' h3 h4 h5 h6 h7=>?_)
  cases e1 with
  |normal=>exact Qlt hC hI hL hM0 (λp hp=>by simp [loopList,hp]) env1 S1 a' M' Q e env' S' h3 h4 h5 h7 h2 λa2 M2 g1 g2 g3 g4 g5=>hQ a2 M2 g1 g2 g3 (by rw [g4,h6]) g5
  |
   exit i=>
   simp only [Kont.seq,KK,Zs,Z3] at h2
   obtain ⟨rfl,rfl,rfl⟩:=h2
   exact hQ a' M' h3 h4 h5 h6 h7
  |
   ret=>
   simp only [Kont.seq,KK,Zs,Z3] at h2
   obtain ⟨rfl,rfl,rfl⟩:=h2
   exact hQ a' M' h3 h4 h5 h6 h7
  |
   goto l=>
   simp only [Kont.seq,KK,Zs,Z3] at h2
   obtain ⟨rfl,rfl,rfl⟩:=h2
   exact hQ a' M' h3 h4 h5 h6 h7
 ·exact Wb hC hI hL hM0 _ (λp hp=>hp) env S a M Q e env' S' hst hN he hbl h hQ
end
theorem Qoc {α:Type}:∀(x:Sem α),Sem.bind x Sem.pure=x:=by
 intro x
 induction x with
 |pure a=>rfl
 |halt h=>rfl
 |_=>simp only [Sem.bind];first|(congr 1;funext v;rename_i ih;exact ih v)|(congr 1)
theorem Qqy {α β γ:Type} (f:α->Sem β) (g:β->Sem γ):∀(x:Sem α),Sem.bind (Sem.bind x f) g=Sem.bind x λa=>Sem.bind (f a) g:=by
 intro x
 induction x with
 |pure a=>rfl
 |halt h=>rfl
 |_=>simp only [Sem.bind];first|(congr 1;funext v;rename_i ih;exact ih v)|(congr 1)
theorem Qje:LawfulMonad Sem:=LawfulMonad.mk' Sem (λx=>Qoc x) (λ_ _=>rfl) (λx f g=>Qqy f g x)
theorem Qqw {α:Type} {P:Program} {w:World} {f:α->Sem Value}:∀{xs:List α} {vs:List Value},vs.length=xs.length->(∀i (hi:i<xs.length) (hi':i<vs.length),(f xs[i]).run P w=.ok vs[i] w)->(xs.mapM f).run P w=.ok vs w:=by
 have:=Qje
 intro xs
 induction xs with
 |nil=>
      intro vs hs h;have:vs=[]:=Z6 hs
      subst this;rfl
 |
  cons x xs ih=>
  intro vs hs h
  match vs,hs,h with
  |
   v::vs,hs,h=>
   have h0:=h 0 (by simp) (by simp)
   have h1:=ih (vs:=vs) (by simpa using hs) λi hi hi'=>h (i+1) (by simpa using hi) (by simpa using hi')
   simp only [Z41] at h0
   rw [List.mapM_cons]
   simp only [Sem.run_bind,h0,Result.andThen_ok,h1,Sem.run_pure]
theorem Qp7 {α:Type} {P:Program} {w:World} {f:α->Sem Value} {xs:Array α} {vs:List Value} (hs:vs.length=xs.size) (h:∀i (hi:i<xs.toList.length) (hi':i<vs.length),(f xs.toList[i]).run P w=.ok vs[i] w):(xs.mapM f).run P w=.ok vs.toArray w:=by
 have:=Qje
 have e:xs.mapM f=List.toArray <$> xs.toList.mapM f:=by
  conv=>lhs;rw [<-Array.toArray_toList (xs:=xs)]
  exact List.mapM_toArray
 rw [e,<-bind_pure_comp,Sem.run_bind,Qqw (by simpa using hs) h,Result.andThen_ok]
 rfl
section
variable {P:Program} {C:Ctx} {M:Mem} {S:Store} {a:Act} {env:Env}
def resF (tmps:Array Value):ResultVar->Sem Value
 |.tmp t=>pure (tmps.getD t Go.undef)
 |.cell b t=>do loadVar t (<-asAddr (tmps.getD b Go.undef))
theorem Qo2 (hT:C.T.check P=true) (hN:Now M S) {t:Nat} {cx:Value} {x v:V} (hx:Rep M cx x) (h:C.loadV t S x some=some v):∃cv,(do loadVar t (<-asAddr cx):Sem Value).run P M.w=.ok cv M.w/\Rep M cv v:=by
 obtain ⟨cv,v',hrun,hK,hr⟩:=Qlm hT hN.ok (λid _=>hN.is id) h hx
 simp only [Zs] at hK
 subst hK
 refine ⟨cv,?_,hr⟩
 cases cx with
 |
  pointer ad=>
  cases ad with
  |none=>simp [Instr.loadAt,Instr.sureAddr,stuck] at hrun
  |some ad=>simpa [Instr.loadAt,Instr.sureAddr,asAddr] using hrun
 |_=>simp [Instr.loadAt,Instr.sureAddr,stuck] at hrun
theorem Qhg (hT:C.T.check P=true) (hN:Now M S) (he:Qx M a.tmps env):∀(rs:List ResultVar) (vs:List V),C.resK env S rs some=some vs->vs.length=rs.length /\
  ∃cvs:List Value,cvs.length=rs.length/\(∀i (h:i<rs.length) (h':i<cvs.length),(resF a.tmps rs[i]).run P M.w=.ok cvs[i] M.w)/\∀i (h:i<vs.length) (h':i<cvs.length),Rep M cvs[i] vs[i]
 |
  [],vs,h=>by
  simp only [Ctx.resK,Zs] at h
  subst h
  exact ⟨rfl,[],rfl,λi h=>by simp at h,λi h=>by simp at h⟩
 |
  .tmp t::rs,vs,h=>by
  simp only [Ctx.resK] at h
  rw [Yh] at h
  simp only [Z7,Zs] at h
  obtain ⟨us,h1,rfl⟩:=h
  obtain ⟨h2,cvs,h3,h4,h5⟩:=Qhg hT hN he rs us h1
  refine ⟨by simp [h2],a.tmps.getD t Go.undef::cvs,by simp [h3],λi hi hi'=>?_,λi hi hi'=>?_⟩
  ·cases i with
   |zero=>simp [resF]
   |succ i=>simpa using h4 i (by simpa using hi) (by simpa using hi')
  ·cases i with
   |zero=>exact he.get t
   |succ i=>simpa using h5 i (by simpa using hi) (by simpa using hi')
 |
  .cell b t::rs,vs,h=>by
  simp only [Ctx.resK] at h
  rw [Qaw] at h
  simp only [Z7] at h
  obtain ⟨v,hv,h⟩:=h
  rw [Yh] at h
  simp only [Z7,Zs] at h
  obtain ⟨us,h1,rfl⟩:=h
  obtain ⟨h2,cvs,h3,h4,h5⟩:=Qhg hT hN he rs us h1
  obtain ⟨cv,hrun,hr⟩:=Qo2 hT hN (he.get b) hv
  refine ⟨by simp [h2],cv::cvs,by simp [h3],λi hi hi'=>?_,λi hi hi'=>?_⟩
  ·cases i with
   |zero=>simpa [resF] using hrun
   |succ i=>simpa using h4 i (by simpa using hi) (by simpa using hi')
  ·cases i with
   |zero=>exact hr
   |succ i=>simpa using h5 i (by simpa using hi) (by simpa using hi')
theorem Qpu (hT:C.T.check P=true) (hN:Now M S) (he:Qx M a.tmps env) {fn:Func} {vs:List V} (h:C.resK env S fn.results.toList some=some vs):∃cv,(results fn a.tmps).run P M.w=.ok cv M.w/\Rep M cv (one vs):=by
 obtain ⟨h2,cvs,h3,h4,h5⟩:=Qhg hT hN he _ _ h
 have hsz:fn.results.size=cvs.length:=by simp [h3]
 have hrun:=Qp7 (P:=P) (w:=M.w) (xs:=fn.results) (vs:=cvs) (f:=resF a.tmps) hsz.symm h4
 rw [show results fn a.tmps=(fn.results.mapM (resF a.tmps) >>= λvs=>pure (if h:vs.size=1 then vs[0] else .tuple vs)) from rfl,Sem.run_bind,hrun,Result.andThen_ok,Sem.run_pure]
 by_cases h1:cvs.length=1
 ·obtain ⟨c,rfl⟩:=List.length_eq_one_iff.1 h1
  obtain ⟨v,rfl⟩:=List.length_eq_one_iff.1 (h2.trans (by rw [<-h3];exact h1))
  exact ⟨c,by simp,h5 0 (by simp) (by simp)⟩
 ·refine ⟨.tuple cvs.toArray,by simp [h1],?_⟩
  have:one vs=.tup vs:=by
   match vs,h2 with
   |[],_=>rfl
   |[v],h2=>simp at h2;omega
   |v::u::r,_=>rfl
  rw [this]
  have hlen:vs.length=cvs.length:=by rw [h2,h3]
  exact .tup _ _ (by simp [hlen]) λj hj=>by
   have:=h5 j hj (by omega)
   rw [show cvs.toArray.getD j Go.undef=cvs[j]'(by omega) by simp [show j<cvs.length by omega]]
   exact this
end
structure FunOK (P:Program) (g:Nat) (f:Func) (c:Code):Prop where
 get:P.funcs[g]? = some f
 body:f.body=some c
 name:(f.name == "runtime.NumGoroutine")=false
theorem FunOK.enters {P:Program} {g:Nat} {f:Func} {c:Code} (h:FunOK P g f c) (args:Array Value) (w:World):(callFunc g args).run P w=.ok (.enter g args) w:=by
 have h1:f.name≠"runtime.NumGoroutine":=by simpa using h.name
 simp [callFunc,go_sem,h.get,h.body,h1]
theorem Qgx {P:Program} {g:Nat} {f:Func} {c:Code} (h:FunOK P g f c):(ifun f).body=c:=by simp [ifun,h.body]
section
variable {P:Program} {C:Ctx} {I:InlP}
theorem Qg6 (hC:Q8 P C) (hI:InlOK P C I) {g:Nat} {f:Func} {c:Code} (hf:FunOK P g f c) {M:Mem} {S:Store} (hL:LoopsOK C I g S.length c) (hN:Now M S) {args:List V} {cargs:Array Value} (hsz:cargs.size=args.length)
  (hr:∀j (h:j<args.length),Rep M (cargs.getD j Go.undef) args[j]) {e:X} {env':Env} {S':Store} (h:C.evB (I Out) g S.length c (args++List.replicate (f.ntmps-args.length) .undef) S KK=some (e,env',S')) (he:(∀i,e≠.exit i)/\∀l,e≠.goto l)
  {vs:List V} (hv:C.resK env' S' f.results.toList some=some vs):Calls P g cargs M.w λe w'=>∃cv M',e=.returned cv/\M'.w=w'/\Step M M'/\Now M' S'/\Rep M' cv (one vs)/\S.length<=S'.length:=by
 have hM0:∀id,(M.μ id).isSome=true->id<S.length:=λid h=>by
  rcases Z56 id S.length with h1|h1
  ·exact h1
  ·rw [hN.fresh id h1] at h;simp at h
 refine calls_of_wp hf.get hf.body (Qus hC hI hL hM0 _ S ⟨cargs++Array.replicate (f.ntmps-cargs.size) Go.undef,[]⟩ M _ e env' S' (.refl M) hN ⟨by simp [hsz],λt ht=>?_⟩ (Z5 _) h λa' M' h1 h2 h3 h4 h5=>?_)
 ·by_cases hlt:t<args.length
  ·rw [Z33 hlt]
   have:=hr t hlt
   simpa [Z0,Z44 (show t<cargs.size by omega)] using this
  ·rw [Z37 (by omega),List.getElem_replicate]
   exact .imm (.undef _)
 ·obtain ⟨cv,hrun,hrep⟩:=Qpu hC.tab h2 h3 hv
  cases e with
  |normal=>exact ⟨h4,cv,hrun,cv,M',rfl,rfl,h1,h2,hrep,h5⟩
  |exit i=>exact (he.1 i rfl).elim
  |goto l=>exact (he.2 l rfl).elim
  |ret=>exact ⟨h4,cv,hrun,cv,M',rfl,rfl,h1,h2,hrep,h5⟩
abbrev Qdq:=∀R:Type,List V->Store->(V->Store->Option R)->Option R
structure SoundP (P:Program) (g:Nat) (h:Qdq):Prop where
 nat:∀(R:Type) (args:List V) (S:Store) (K:V->Store->Option R),h R args S K=Bd (h (V×Store) args S K0) K
 sound:∀(args:List V) (S:Store) (v:V) (S':Store) (M:Mem) (cargs:Array Value),h (V×Store) args S K0=some (v,S')->Now M S->cargs.size=args.length ->
  (∀j (h:j<args.length),Rep M (cargs.getD j Go.undef) args[j])->CallR P g cargs M.w λcv w'=>∃M':Mem,M'.w=w'/\Step M M'/\Now M' S'/\Rep M' cv v/\S.length<=S'.length
structure InlF (P:Program) (C:Ctx):Prop where
 prim:∀g h,C.prim g=some h->SoundP P g h
 fn:∀g fn,C.inl g=some fn->∃f c,FunOK P g f c/\fn=ifun f
 loops:∀g fn,C.inl g=some fn->(InlOK P C λR=>C.inlK (C.rank g))->∀base,LoopsOK C (λR=>C.inlK (C.rank g)) g base fn.body
theorem Qny {R:Type} (rs:List ResultVar) (k:List V->Store->Option R) (e:X) (env:Env) (S:Store):C.outK rs k e env S=(C.outK rs (λvs S=>some (vs,S)) e env S).bind λp=>k p.1 p.2:=by
 cases e<;>simp only [Ctx.outK]
 ·rw [Yh,Yh C env S rs λvs=>some (vs,S)];cases C.resK env S rs some<;>rfl
 ·rfl
 ·rw [Yh,Yh C env S rs λvs=>some (vs,S)];cases C.resK env S rs some<;>rfl
 ·rfl
theorem Qg8 {rs:List ResultVar} {e:X} {env:Env} {S:Store} {vs:List V} {S':Store} (h:C.outK rs (λvs S=>some (vs,S)) e env S=some (vs,S')):((∀i,e≠.exit i)/\∀l,e≠.goto l)/\C.resK env S rs some=some vs/\S'=S:=by
 have key:(C.resK env S rs λvs=>some (vs,S))=some (vs,S')->C.resK env S rs some=some vs/\S'=S:=λh=>by
  rw [Yh] at h
  simp only [Z7,Zs,Z3] at h
  obtain ⟨us,h1,rfl,rfl⟩:=h
  exact ⟨h1,rfl⟩
 cases e<;>simp only [Ctx.outK] at h
 ·exact ⟨⟨λi hi=>by simp at hi,λi hi=>by simp at hi⟩,key h⟩
 ·simp at h
 ·exact ⟨⟨λi hi=>by simp at hi,λi hi=>by simp at hi⟩,key h⟩
 ·simp at h
theorem Qcg {I:InlP} (hI:InlOK P C I) {R:Type} (fid base:Nat) (c:Code) (env:Env) (S:Store) (rs:List ResultVar) (k:List V->Store->Option R) :
  C.evB (I R) fid base c env S (C.outK rs k)=((C.evB (I Out) fid base c env S KK).bind λp=>C.outK rs (λvs S=>some (vs,S)) p.1 p.2.1 p.2.2).bind λp=>k p.1 p.2:=by
 rw [Qpl hI]
 cases C.evB (I Out) fid base c env S KK with
 |none=>rfl
 |some p=>exact Qny rs k p.1 p.2.1 p.2.2
theorem Qcw (hC:Q8 P C) (hF:InlF P C):∀d,InlOK P C λR=>C.inlK d
 |0=>⟨λR f args S K=>rfl,λf args S v S' M cargs h=>by simp [Ctx.inlK] at h⟩
 |
  d+1=>by
  have ih:=Qcw hC hF d
  refine ⟨λR f args S K=>?_,λf args S v S' M cargs h hN hsz hr=>?_⟩
  ·simp only [Ctx.inlK]
   cases hp:C.prim f with
   |some h=>exact (hF.prim f h hp).nat R args S K
   |none=>
   cases hrk:Nat.beq (C.rank f) d with
   |false=>simp only [Zc];exact ih.nat R f args S K
   |true=>
   simp only [Zd]
   cases C.inl f with
   |none=>rfl
   |
    some fn=>
    simp only
    rw [Qcg ih,Qcg (R:=V×Store) ih]
    generalize (C.evB (C.inlK d) f S.length fn.body (args++List.replicate (fn.ntmps-args.length) .undef) S KK).bind _=q
    cases q<;>rfl
  ·simp only [Ctx.inlK] at h
   cases hp:C.prim f with
   |
    some pr=>
    rw [hp] at h
    exact (hF.prim f pr hp).sound args S _ _ M cargs h hN hsz hr
   |none=>
   rw [hp] at h
   simp only at h
   cases hrk:Nat.beq (C.rank f) d with
   |
    false=>
    rw [hrk] at h
    exact ih.sound f args S v S' M cargs h hN hsz hr
   |true=>
   rw [hrk] at h
   simp only [Zd] at h
   have hrank:C.rank f=d:=Z68 hrk
   cases hg:C.inl f with
   |none=>rw [hg] at h;simp at h
   |
    some fn=>
    rw [hg] at h
    simp only at h
    rw [Qcg ih] at h
    simp only [Z7] at h
    obtain ⟨⟨vs,S2⟩,⟨⟨e,env',S1⟩,h1,h2⟩,h3⟩:=h
    simp only [K0,Zs,Z3] at h3
    obtain ⟨rfl,rfl⟩:=h3
    obtain ⟨hne,hv,rfl⟩:=Qg8 h2
    obtain ⟨fu,c,hfu,rfl⟩:=hF.fn f _ hg
    have hbody:=Qgx hfu
    have hloops:=hF.loops f _ hg (by rw [hrank];exact ih) S.length
    rw [hbody] at hloops h1
    rw [hrank] at hloops
    have hcalls:=Qg6 hC ih hfu hloops hN hsz hr h1 hne hv
    unfold CallR
    rw [hfu.enters]
    exact hcalls.mono λe w' ⟨cv,M',he,hw,h5,h6,h7,h8⟩=>by
     subst he;exact ⟨M',hw,h5,h6,h7,h8⟩
def Ws:V->V
 |.agg cs=>.agg (cs.map unexact)
 |v=>unexact v
def Qci:V->V
 |.tup vs=>.tup (vs.map Ws)
 |v=>Ws v
def imm3:V->Bool
 |.tup vs=>vs.all immV
 |v=>immV v
theorem Qdk {M:Mem} {cv:Value} {v:V} (h:Rep M cv v):Rep M cv (unexact v):=by
 cases v<;>simp only [unexact]<;>try exact h
 all_goals
  cases h with
  |imm h=>exact .imm (Qec h rfl)
  |ref h=>exact h.2.elim
theorem Qdd {M:Mem} {cv:Value} {v:V} (h:Rep M cv v):Rep M cv (Ws v):=by
 cases v with
 |
  agg cs=>
  obtain ⟨cvs,rfl,hl,ho,hr⟩:=Wk h
  exact .agg cvs _ (by simpa using hl) (λj hj=>ho j (by simpa using hj)) λj hj=>by
   rw [Z18];exact Qdk (hr j (by simpa using hj))
 |_=>exact Qdk h
theorem Qmk {M:Mem} {cv:Value} {v:V} (h:Rep M cv v):Rep M cv (Qci v):=by
 cases v with
 |
  tup cs=>
  obtain ⟨cvs,rfl,hl,hr⟩:=Qbr h
  exact .tup cvs _ (by simpa using hl) λj hj=>by
   rw [Z18];exact Qdd (hr j (by simpa using hj))
 |_=>exact Qdd h
theorem Qja {M:Mem} {cv:Value} {v:V} (h:Rep M cv v) (hi:imm3 v=true):Rep0 M.O M.w cv v:=by
 cases v with
 |
  tup cs=>
  obtain ⟨cvs,rfl,hl,hr⟩:=Qbr h
  exact .tup cvs cs hl λj hj=>Qaa (hr j hj) (Z14.1 hi _ (Z10 hj))
 |_=>exact Qaa h hi
def mem0 (O:Nat->Prop) (w:World):Mem:=⟨w,O,λ_=>none,λ_=>.dead⟩
theorem Quw {O:Nat->Prop} {w:World} (h:∀b,O b->b<w.heap.size):Now (mem0 O w) []:=
 ⟨⟨λid loc h=>by simp [mem0] at h,λid id' b o o' cap cap' h1=>by simp [mem0,Blk.own] at h1,h⟩,λid=>by simp [mem0],λid _=>rfl⟩
theorem Qf7 (hC:Q8 P C) (hF:InlF P C) {g:Nat} {f:Func} {c:Code} (hf:FunOK P g f c) (hL:LoopsOK C (λR=>C.inlK 6) g 0 c) {vs vs0:List V} {p:Pack} {dec:V->Option p.ρ}
  (hvs:vs.map Ws=vs0) (link:C.evTop g (ifun f) vs0 dec=p.m) (hdec:∀v r,dec v=some r->Qci v=p.enc r/\imm3 (p.enc r)=true):SoundC P g vs p:=by
 intro O w args r hm hsz hrep hO
 have ih:=Qcw hC hF 6
 have hN:=Quw hO
 rw [hm] at link
 have hsz0:args.size=vs0.length:=by rw [<-hvs];simpa using hsz
 have hrep0:∀j (h:j<vs0.length),Rep (mem0 O w) (args.getD j Go.undef) vs0[j]:=λj hj=>by
  subst hvs
  rw [Z18]
  exact Qdd (.imm (hrep j (by simpa using hj)))
 unfold Ctx.evTop at link
 rw [Qcg ih] at link
 simp only [Z7] at link
 obtain ⟨⟨us,S'⟩,⟨⟨e,env',S1⟩,h1,h2⟩,h3⟩:=link
 obtain ⟨hne,h2',rfl⟩:=Qg8 h2
 rw [Qgx hf] at h1
 have hcalls:=Qg6 (S:=[]) hC ih hf hL hN hsz0 hrep0 h1 hne h2'
 unfold CallR
 rw [hf.enters]
 refine hcalls.mono λe w' ⟨cv,M',he,hw,h5,h6,h7,_⟩=>?_
 subst he
 subst hw
 obtain ⟨M2,hfz⟩:=Qb6 us h6.ok h6.is
 have hN2:=hfz.now h6
 have hst:=h5.trans hfz.step
 refine ⟨⟨h5.os,h5.tape,h5.output,h5.size,λk hk _=>(h5.keep k hk λ⟨id,o,cap,h,_⟩=>by simp [mem0,Blk.own] at h).1⟩,?_⟩
 have himm:∀v∈us,∀{cv},Rep M' cv v->Rep M2 cv (immDeep S' v):=λv hv cv h=>by
  have h8:=Qf9 hN2.ok hN2.is (hfz.step.rep h6.ok h) λu hu=>Qb0 us (.inr ⟨v,hv,hu⟩)
  have h9:immDeep (Wa S' us) v=immDeep S' v:=by
   have hh:=Qc9 hfz.content
   unfold immDeep
   split
   ·congr 1;exact Z78 λu _=>hh u
   ·exact hh _
  rwa [h9] at h8
 have h8:Rep M2 cv (one (us.map (immDeep S'))):=by
  match us,h7,himm with
  |
   [],h7,_=>
   obtain ⟨cvs,rfl,hl,hr⟩:=Qbr h7
   exact .tup cvs [] hl λj hj=>by simp at hj
  |[v],h7,himm=>exact himm v (by simp) h7
  |
   v::u::rest,h7,himm=>
   obtain ⟨cvs,rfl,hl,hr⟩:=Qbr h7
   refine .tup cvs ((v::u::rest).map (immDeep S')) (by simpa using hl) λj hj=>?_
   have hj':j<(v::u::rest).length:=by simpa using hj
   have e1:((v::u::rest).map (immDeep S'))[j]=immDeep S' (v::u::rest)[j]:=Z18 ..
   rw [e1];exact himm _ (Z10 _) (hr j hj')
 obtain ⟨h9,h10⟩:=hdec _ _ h3
 have h11:=Qmk h8
 rw [h9] at h11
 have h12:=Qja h11 h10
 have hw2:M2.w=M'.w:=hfz.w
 rw [hw2] at h12
 refine h12.mono (λa v _ h=>h) λa v hno hcell hOa=>hno ?_
 have hlt:=hO _ hOa
 have:=(hst.keep a.block hlt λ⟨id,o,cap,h,_⟩=>by simp [mem0,Blk.own] at h).2
 exact this.2 hOa
theorem Qqi {σ R:Type} {F:(σ->Option R)->σ->Option R} {x:σ} {o:R} (h:lfp F x=some o):∃N,Q6 F N x=some o:=by
 unfold lfp at h
 split at h
 ·exact ⟨_,h⟩
 ·simp at h
theorem Qt6 (hI:InlOK P C I) {R:Type} (fid id base:Nat) (b:Code) (n:Nat) (k:Env×Store->Option R) (d:Out->Option R) (st:Env×Store) {R':Type} (g:R->R') :
  C.loopPI (I R') fid id base b n (λst=>(k st).map g) (λp=>(d p).map g) st=(C.loopPI (I R) fid id base b n k d st).map g:=by
 unfold Ctx.loopPI
 rw [Qv hI,Qv (R:=R) hI]
 cases C.evK (I Out) fid base b st.1 st.2 KK with
 |none=>rfl
 |
  some p=>
  obtain ⟨e,env,S⟩:=p
  cases e<;>rfl
theorem Qlj (hI:InlOK P C I) {σ τ:Type} {F:∀R:Type,(σ->Option R)->(τ->Option R)->σ->Option R} {fid id base n:Nat} {b:Code} {enc:σ->Env×Store} {dec:Env×Store->Option σ} {out:τ->Out} {decO:Out->Option τ}
  (hdec:∀x,dec (enc x)=some x) (hout:∀o,decO (out o)=some o)
  (link:∀(R:Type) (k:Env×Store->Option R) (d:Out->Option R) (x:σ),C.loopPI (I R) fid id base b n k d (enc x)=F R (λx'=>k (enc x')) (λo=>d (out o)) x) {x:σ} {o:τ}
  (h:lfp (λrec x=>F τ rec some x) x=some o):∃N,Q6 (C.loopG (I Out) fid id base b n) N (enc x)=some (out o):=by
 have hF:∀(R:Type) (rec:σ->Option R) (done:τ->Option R) (x:σ),F R rec done x=C.loopPI (I R) fid id base b n (λst=>(dec st).bind rec) (λp=>(decO p).bind done) (enc x):=λR rec done x=>by
  rw [link];simp only [hdec,hout,Zb]
 have nat:∀(R R':Type) (g:R->R') (rec:σ->Option R) (done:τ->Option R) (x:σ),F R' (λx=>(rec x).map g) (λo=>(done o).map g) x=(F R rec done x).map g:=λR R' g rec done x=>by
  rw [hF R,hF R',<-Qt6 hI]
  congr 1
  ·funext st;cases dec st<;>rfl
  ·funext p;cases decO p<;>rfl
 have key:∀N x,Q6 (C.loopG (I Out) fid id base b n) N (enc x)=(Q6 (λrec x=>F τ rec some x) N x).map out:=by
  intro N
  induction N with
  |zero=>intro x;rfl
  |
   succ N ihN=>
   intro x
   show C.loopPI (I Out) fid id base b n (Q6 (C.loopG (I Out) fid id base b n) N) some (enc x)=(F τ (Q6 (λrec x=>F τ rec some x) N) some x).map out
   rw [link,<-nat]
   congr 1
   funext x';exact ihN x'
 obtain ⟨N,hN⟩:=Qqi h
 exact ⟨N,by rw [key,hN];rfl⟩
mutual
theorem Qhu:∀(f v:V) (ls rest:List Leaf),matchV f v=some ls->fillF f (ls++rest)=(v,rest)
 |.undef,v,ls,rest,h=>by cases v<;>simp [matchV] at h;subst h;simp [fillF]
 |.bool b,v,ls,rest,h=>by cases v<;>simp [matchV] at h;subst h;simp [fillF]
 |.int k n,v,ls,rest,h=>by cases v<;>simp [matchV] at h;obtain ⟨rfl,rfl⟩:=h;simp [fillF]
 |.flt n,v,ls,rest,h=>by cases v<;>simp [matchV] at h;subst h;simp [fillF]
 |.str s,v,ls,rest,h=>by cases v<;>simp [matchV] at h;subst h;simp [fillF]
 |.ints x k l,v,ls,rest,h=>by cases v<;>simp [matchV] at h;obtain ⟨⟨rfl,rfl⟩,rfl⟩:=h;simp [fillF]
 |.strs x l,v,ls,rest,h=>by cases v<;>simp [matchV] at h;obtain ⟨rfl,rfl⟩:=h;simp [fillF]
 |.recs x z l,v,ls,rest,h=>by cases v<;>simp [matchV] at h;obtain ⟨⟨rfl,rfl⟩,rfl⟩:=h;simp [fillF]
 |.nilp,v,ls,rest,h=>by cases v<;>simp [matchV] at h;subst h;simp [fillF]
 |.ptr id off,v,ls,rest,h=>by cases v<;>simp [matchV] at h;obtain ⟨⟨rfl,rfl⟩,rfl⟩:=h;simp [fillF]
 |.sref id off,v,ls,rest,h=>by cases v<;>simp [matchV] at h;obtain ⟨⟨rfl,rfl⟩,rfl⟩:=h;simp [fillF]
 |.sview id off lo n,v,ls,rest,h=>by cases v<;>simp [matchV] at h;obtain ⟨⟨rfl,rfl⟩,rfl⟩:=h;simp [fillF]
 |
  .agg cs,v,ls,rest,h=>by
  cases v<;>simp only [matchV] at h<;>try (simp at h;done)
  have:=Qav cs _ ls rest h
  simp only [fillF,this]
 |
  .cptr cs,v,ls,rest,h=>by
  cases v<;>simp only [matchV] at h<;>try (simp at h;done)
  have:=Qav cs _ ls rest h
  simp only [fillF,this]
 |
  .func f cs,v,ls,rest,h=>by
  cases v<;>simp only [matchV] at h<;>try (simp at h;done)
  split at h
  case isFalse=>simp at h
  rename_i e
  subst e
  have:=Qav cs _ ls rest h
  simp only [fillF,this]
 |.nilf,v,ls,rest,h=>by cases v<;>simp [matchV] at h;subst h;simp [fillF]
 |.nili,v,ls,rest,h=>by cases v<;>simp [matchV] at h;subst h;simp [fillF]
 |.nilm,v,ls,rest,h=>by cases v<;>simp [matchV] at h;subst h;simp [fillF]
 |.nilsl,v,ls,rest,h=>by cases v<;>simp [matchV] at h;subst h;simp [fillF]
 |.eptr ..,v,ls,rest,h=>by cases v<;>simp [matchV] at h
 |.tup _,v,ls,rest,h=>by cases v<;>simp [matchV] at h
 |.iface _ _,v,ls,rest,h=>by cases v<;>simp [matchV] at h
 |.mapr _,v,ls,rest,h=>by cases v<;>simp [matchV] at h
theorem Qav:∀(fs vs:List V) (ls rest:List Leaf),Yg fs vs=some ls->fillFL fs (ls++rest)=(vs,rest)
 |[],[],ls,rest,h=>by simp [Yg] at h;subst h;simp [fillFL]
 |[],_::_,ls,rest,h=>by simp [Yg] at h
 |_::_,[],ls,rest,h=>by simp [Yg] at h
 |
  f::fs,v::vs,ls,rest,h=>by
  simp only [Yg] at h
  split at h
  case h_2=>simp at h
  rename_i a b h1 h2
  simp only [Zs] at h
  subst h
  have e1:=Qhu f v a (b++rest) h1
  have e2:=Qav fs vs b rest h2
  simp only [fillFL,Z70,e1,e2]
end
theorem Qwa (f v:Blk) (ls rest:List Leaf) (h:matchB f v=some ls):fillB f (ls++rest)=(v,rest):=by
 cases f<;>cases v<;>simp only [matchB] at h<;>try (simp at h;done)
 ·split at h
  case isFalse=>simp at h
  rename_i e
  subst e
  simp only [fillB,Qav _ _ ls rest h]
 ·split at h
  case isFalse=>simp at h
  rename_i e
  obtain ⟨rfl,rfl,rfl⟩:=e
  simp only [fillB,Qhu _ _ ls rest h]
 ·split at h
  case isFalse=>simp at h
  rename_i e
  subst e
  simp only [fillB,Qhu _ _ ls rest h]
 ·simp only [Zs] at h;subst h;simp [fillB]
 ·simp only [Zs] at h;subst h;simp [fillB]
theorem Qnf:∀(fs vs:Store) (ls rest:List Leaf),Qae fs vs=some ls->fillS fs (ls++rest)=(vs,rest)
 |[],[],ls,rest,h=>by simp [Qae] at h;subst h;simp [fillS]
 |[],_::_,ls,rest,h=>by simp [Qae] at h
 |_::_,[],ls,rest,h=>by simp [Qae] at h
 |
  f::fs,v::vs,ls,rest,h=>by
  simp only [Qae] at h
  split at h
  case h_2=>simp at h
  rename_i a b h1 h2
  simp only [Zs] at h
  subst h
  have e1:=Qwa f v a (b++rest) h1
  have e2:=Qnf fs vs b rest h2
  simp only [fillS,Z70,e1,e2]
theorem Qu4 {f st:Env×Store} {ls:List Leaf} (h:matchSt f st=some ls):Qa f ls=st:=by
 unfold matchSt at h
 split at h
 case h_2=>simp at h
 rename_i a b h1 h2
 simp only [Zs] at h
 subst h
 have e1:=Qav f.1 st.1 a b h1
 have e2:=Qnf f.2 st.2 b [] h2
 rw [Z35] at e2
 simp only [Qa,e1,e2]
theorem Qo {c:Code} (h:Qn c=true) {id:Nat} {b:Code} (hm:(id,b)∈loopList c):b=Qf id c:=by
 unfold Qn at h
 unfold Qf
 generalize loopList c=l at h hm
 induction l with
 |nil=>simp at hm
 |
  cons p l ih=>
  simp only [Qn.go,Z4,Z53,List.any_eq_false] at h
  obtain ⟨h1,h2⟩:=h
  rcases Z67.1 hm with e|hm
  ·subst e;simp
  ·have hne:p.1≠id:=λe=>h1 _ hm (by simp [e])
   have:=ih h2 hm
   rw [List.lookup_cons]
   have hb:(id == p.1)=false:=by simp;exact λe=>hne e.symm
   rw [hb];exact this
end
end Go.Proofs.YtjfipepaaddlmaaGreatDoor.A
end
section
namespace Go.Proofs.YtjfipepaaddlmaaGreatDoor.A
open Go Go.RowKit
def un:Nat->List V->List V
 |0,l=>l
 |n+1,l=>.undef::un n l
class LD (σ:Type) where
 rd:List Leaf->Option (σ×List Leaf)
instance:LD Bool:=⟨fun | .b x::r=>some (x,r)|_=>none⟩
instance:LD Int:=⟨fun | .i x::r=>some (x,r)|_=>none⟩
instance:LD Nat:=⟨fun | .n x::r=>some (x,r)|_=>none⟩
instance:LD J1:=⟨fun | .s x::r=>some (x,r)|_=>none⟩
instance:LD J0:=⟨fun | .li x::r=>some (x,r)|_=>none⟩
instance:LD (List J1):=⟨fun | .ls x::r=>some (x,r)|_=>none⟩
instance:LD J2:=⟨fun | .lr x::r=>some (x,r)|_=>none⟩
instance:LD Unit:=⟨λl=>some ((),l)⟩
instance {α β:Type} [LD α] [LD β]:LD (α×β):=⟨λl=>match (LD.rd l:Option (α×List Leaf)) with
 |some (a,r)=>(match (LD.rd r:Option (β×List Leaf)) with|some (b,r)=>some ((a,b),r)|none=>none)
 |none=>none⟩
def pickL (ls:List Leaf):List Nat->List Leaf
 |[]=>[]
 |i::is=>match ls[i]? with|some x=>x::pickL ls is|none=>pickL ls is
def decS {σ:Type} [LD σ] (sh:Env×Store) (is:List Nat) (st:Env×Store):Option σ:=
 match matchSt sh st with
 |some ls=>(match (LD.rd (pickL ls is):Option (σ×List Leaf)) with|some (a,_)=>some a|none=>none)
 |none=>none
def X.same:X->X->Bool
 |.normal,.normal=>true
 |.ret,.ret=>true
 |.exit i,.exit j=>Nat.beq i j
 |_,_=>false
def Qgc {τ τ':Type} [LD τ] [LD τ'] (k:X) (so:Env×Store) (os:List Nat) (so':Env×Store) (os':List Nat) (p:X×Env×Store):Option (τ⊕τ'):=
 bif X.same p.1 k then (decS so os p.2:Option τ).map .inl else (decS so' os' p.2:Option τ').map .inr
section
variable {P:Program} {C:Ctx}
def Ql (C:Ctx) (d fid id base:Nat) (b:Code) (sh:Env×Store) (pk:List Leaf->Option LPack):Prop:=
 ∀st p,(matchSt sh st).bind pk=some p->p.sound (C.loopG (C.inlK d) fid id base b st.2.length) st
theorem Qm {d fid id base:Nat} {b:Code} {sh:Env×Store} {pk:List Leaf->Option LPack} (h:∀ls p,pk ls=some p->p.sound (C.loopG (C.inlK d) fid id base b (Qa sh ls).2.length) (Qa sh ls)):Ql C d fid id base b sh pk:=by
 intro st p hp
 obtain ⟨ls,h1,h2⟩:=Z7.1 hp
 rw [<-Qu4 h1]
 exact h ls p h2
theorem Qp {d:Nat} (hI:InlOK P C λR=>C.inlK d) {σ τ:Type} [LD σ] [LD τ] {fid id base n:Nat} {b:Code} {sh so st:Env×Store} {F:∀R:Type,(σ->Option R)->(τ->Option R)->σ->Option R} {enc:σ->Env×Store} {out:τ->Out} (is os:List Nat) (x:σ)
  (hx:st=enc x) (hn:(enc x).2.length=n) (hdec:∀x,decS sh is (enc x)=some x) (hout:∀o,decS so os (out o).2=some o)
  (link:∀(R:Type) (k:Env×Store->Option R) (d':Out->Option R) (x:σ),C.loopPI (C.inlK d) fid id base b n k d' (enc x)=F R (λx'=>k (enc x')) (λo=>d' (out o)) x) :
  (LPack.one τ (lfp (λrec x=>F τ rec some x) x) out).sound (C.loopG (C.inlK d) fid id base b st.2.length) st:=by
 rw [hx,hn]
 intro o ho
 exact Qlj (I:=λR=>C.inlK d) hI (dec:=decS sh is) (decO:=λp=>decS so os p.2) hdec hout link ho
theorem Wx {d:Nat} (hI:InlOK P C λR=>C.inlK d) {σ τ τ':Type} [LD σ] [LD τ] [LD τ'] {fid id base n:Nat} {b:Code} {sh so so' st:Env×Store} {F:∀R:Type,(σ->Option R)->(τ⊕τ'->Option R)->σ->Option R} {enc:σ->Env×Store} {out:τ->Out} {out':τ'->Out} (k:X) (is os os':List Nat) (x:σ)
  (hx:st=enc x) (hn:(enc x).2.length=n) (hdec:∀x,decS sh is (enc x)=some x) (hout:∀o,Qgc (τ:=τ) (τ':=τ') k so os so' os' (out o)=some (.inl o)) (hout':∀o,Qgc (τ:=τ) (τ':=τ') k so os so' os' (out' o)=some (.inr o))
  (link:∀(R:Type) (k:Env×Store->Option R) (d':Out->Option R) (x:σ),C.loopPI (C.inlK d) fid id base b n k d' (enc x)=F R (λx'=>k (enc x')) (λo=>match o with | .inl o=>d' (out o) | .inr o=>d' (out' o)) x) :
  (LPack.two τ τ' (lfp (λrec x=>F (τ⊕τ') rec some x) x) out out').sound (C.loopG (C.inlK d) fid id base b st.2.length) st:=by
 rw [hx,hn]
 intro o ho
 have key:=Qlj (I:=λR=>C.inlK d) hI (dec:=decS sh is) (decO:=Qgc (τ:=τ) (τ':=τ') k so os so' os') (out:=λo=>match o with | .inl o=>out o | .inr o=>out' o) hdec (λo=>match o with | .inl o=>hout o | .inr o=>hout' o)
  (λR k d' x=>(link R k d' x).trans (congrArg (λdn=>F R (λx'=>k (enc x')) dn x) (funext λo=>by cases o<;>rfl))) ho
 obtain ⟨N,hN⟩:=key
 exact ⟨N,hN.trans (by cases o<;>rfl)⟩
def Q5 {ρ:Type} (dec:V->Option ρ) (enc:ρ->V):Prop:=∀v r,dec v=some r->Qci v=enc r/\imm3 (enc r)=true
theorem Qt {P:Program}:∀g vs (p:Pack),(none:Option Pack)=some p->SoundC P g vs p:=λ_ _ _ h=>by cases h
theorem Qi {P:Program}:∀g vs (p:Pack),Qh [] g vs=some p->SoundC P g vs p:=λ_ _ _ h=>by cases h
theorem Qb {P:Program} {f:Nat} {k:List V->Option Pack} {r:List (Nat×(List V->Option Pack))} (h:∀vs p,k vs=some p->SoundC P f vs p) (hr:∀g vs p,Qh r g vs=some p->SoundC P g vs p) :
  ∀g vs p,Qh ((f,k)::r) g vs=some p->SoundC P g vs p:=λg vs p e=>by
 unfold Qh at e
 split at e
 ·rename_i hg;subst hg;exact h vs p e
 ·exact hr g vs p e
theorem Qj (hT:C.T.check P=true) (hm:P.follows .mixedOrders=true) (hp:C.prim=λ_=>none) (hi:C.inl=λ_=>none) (hc:C.clone=λ_=>none) (hl:C.L=λ_ _ _ _=>none)
  (call:∀g vs p,C.call g vs=some p->SoundC P g vs p) {g:Nat} {f:Func} {c:Code} (hf:FunOK P g f c) {vs vs0:List V} {p:Pack} {dec:V->Option p.ρ}
  (hvs:vs.map Ws=vs0) (link:C.evTop g (ifun f) vs0 dec=p.m) (hdec:Q5 dec p.enc) (hmt:C.meth=λ_ _=>none:=by rfl):SoundC P g vs p:=
 Qf7 ⟨hT,hm,λg vs p _ _ h=>call g vs p h,λg e _ h=>by rw [hc] at h;simp at h,λt m g h=>by rw [hmt] at h;simp at h⟩
  ⟨λg h hh=>by rw [hp] at hh;simp at hh,λg fn h=>by rw [hi] at h;simp at h,λg fn h=>by rw [hi] at h;simp at h⟩ hf
  (λid b _ st p hp=>by rw [hl] at hp;simp at hp) hvs link hdec
theorem Qw (hT:C.T.check P=true) (hm:P.follows .mixedOrders=true) (hp:C.prim=λ_=>none) (hi:C.inl=λ_=>none) (hc:C.clone=λ_=>none)
  (call:∀g vs p,C.call g vs=some p->SoundC P g vs p) {g:Nat} {f:Func} {c:Code} (hf:FunOK P g f c)
  (hL:(InlOK P C λR=>C.inlK 6)->LoopsOK C (λR=>C.inlK 6) g 0 c) {vs vs0:List V} {p:Pack} {dec:V->Option p.ρ}
  (hvs:vs.map Ws=vs0) (link:C.evTop g (ifun f) vs0 dec=p.m) (hdec:Q5 dec p.enc) (hmt:C.meth=λ_ _=>none:=by rfl):SoundC P g vs p:=by
 have hC:Q8 P C:=⟨hT,hm,λg vs p _ _ h=>call g vs p h,λg e _ h=>by rw [hc] at h;simp at h,λt m g h=>by rw [hmt] at h;simp at h⟩
 have hF:InlF P C:=⟨λg h hh=>by rw [hp] at hh;simp at hh,λg fn h=>by rw [hi] at h;simp at h,λg fn h=>by rw [hi] at h;simp at h⟩
 exact Qf7 hC hF hf (hL (Qcw hC hF 6)) hvs link hdec
theorem Ya (hT:C.T.check P=true) (hm:P.follows .mixedOrders=true) (hc:C.clone=λ_=>none)
  (call:∀g vs p,C.call g vs=some p->SoundC P g vs p) (hF:InlF P C) {g:Nat} {f:Func} {c:Code} (hf:FunOK P g f c)
  (hL:(InlOK P C λR=>C.inlK 6)->LoopsOK C (λR=>C.inlK 6) g 0 c) {vs vs0:List V} {p:Pack} {dec:V->Option p.ρ}
  (hvs:vs.map Ws=vs0) (link:C.evTop g (ifun f) vs0 dec=p.m) (hdec:Q5 dec p.enc) (hmt:C.meth=λ_ _=>none:=by rfl):SoundC P g vs p:=by
 have hC:Q8 P C:=⟨hT,hm,λg vs p _ _ h=>call g vs p h,λg e _ h=>by rw [hc] at h;simp at h,λt m g h=>by rw [hmt] at h;simp at h⟩
 exact Qf7 hC hF hf (hL (Qcw hC hF 6)) hvs link hdec
theorem noLoops (hl:C.L=λ_ _ _ _=>none) (I:InlP) (g base:Nat) (c:Code):LoopsOK C I g base c:=λid b _ st p hp=>by rw [hl] at hp;simp at hp
end
structure Qa8 where
 ρ:Type
 m:Option ρ
 enc:ρ->V
 encC:ρ->List (List V)
def Qca:Nat->List V->Option (List Nat×List V)
 |0,vs=>some ([],vs)
 |
  k+1,.ptr id 0::vs=>match Qca k vs with
  |some p=>some (id::p.1,p.2)
  |none=>none
 |_,_=>none
def Jl (S:Store):List Nat->List Nat->Option J2
 |[],[]=>some []
 |
  t::ts,id::ids=>match S.getD id .dead with
  |
   .cells t' cs=>if t'=t/\cs.all imm1=true then (match Jl S ts ids with
   |some r=>some (cs::r)
   |none=>none) else none
  |_=>none
 |_,_=>none
def Wy:List Nat->List Nat->J2->Store->Store
 |t::ts,id::ids,cs::css,S=>Wy ts ids css (S.set id (.cells t cs))
 |_,_,_,S=>S
def Qam:List Nat->Bool
 |[]=>true
 |a::r=>r.all (λb=>!Nat.beq a b)&&Qam r
def blkP (ts:List Nat) (pk:J2->List V->Option Qa8):Qdq:=λR args S K=>
 match Qca ts.length args with
 |none=>none
 |
  some (ids,rest)=>match Jl S ts ids with
  |none=>none
  |some css=>if Qam ids=true/\rest.all immV=true then (match pk css rest with
    |some p=>p.m.bind λr=>K (p.enc r) (Wy ts ids (p.encC r) S)
    |none=>none) else none
def mkB:List Nat->J2->Store
 |t::ts,cs::css=>.cells t cs::mkB ts css
 |_,_=>[]
def Wq:Nat->Nat->List V
 |_,0=>[]
 |i,k+1=>.ptr i 0::Wq (i+1) k
def idsB:Nat->Nat->List Nat
 |_,0=>[]
 |i,k+1=>i::idsB (i+1) k
def Ctx.evBlk {R:Type} (C:Ctx) (f:Nat) (fn:IFun) (ts:List Nat) (css:J2) (rest:List V) (dec:V->J2->Option R):Option R:=
 C.evB (C.inlK 6) f ts.length fn.body (Wq 0 ts.length++rest++List.replicate (fn.ntmps-(ts.length+rest.length)) .undef) (mkB ts css) (C.outK fn.results λvs S=>match Jl S ts (idsB 0 ts.length) with
  |some css'=>dec (one vs) css'
  |none=>none)
theorem Qlf:∀{k:Nat} {args:List V} {ids:List Nat} {rest:List V},Qca k args=some (ids,rest)->ids.length=k/\args=ids.map (V.ptr · 0)++rest
 |
  0,args,ids,rest,h=>by
  simp only [Qca,Zs,Z3] at h
  obtain ⟨rfl,rfl⟩:=h;simp
 |
  k+1,args,ids,rest,h=>by
  unfold Qca at h
  split at h
  ·rename_i e;simp at e
  ·rename_i k' id vs e
   have e:k=k':=by omega
   subst e
   split at h
   ·rename_i p hp
    simp only [Zs,Z3] at h
    obtain ⟨rfl,rfl⟩:=h
    have:=Qlf (ids:=p.1) (rest:=p.2) hp
    exact ⟨by simp [this.1],by rw [this.2];simp⟩
   ·simp at h
  ·simp at h
theorem Qho {S:Store}:∀{ts ids:List Nat} {css:J2},Jl S ts ids=some css->ids.length=ts.length/\css.length=ts.length /\
  ∀j,j<ts.length->S.getD (ids.getD j 0) .dead=.cells (ts.getD j 0) (css.getD j [])/\(css.getD j []).all imm1=true
 |
  [],[],css,h=>by
  simp only [Jl,Zs] at h;subst h
  exact ⟨rfl,rfl,λj hj=>by simp at hj⟩
 |
  t::ts,id::ids,css,h=>by
  unfold Jl at h
  split at h
  case h_2=>simp at h
  rename_i t' cs hk
  split at h
  case isFalse=>simp at h
  rename_i hc
  obtain ⟨rfl,ha⟩:=hc
  split at h
  case h_2=>simp at h
  rename_i r hr
  simp only [Zs] at h;subst h
  obtain ⟨h1,h2,h3⟩:=Qho hr
  refine ⟨by simp [h1],by simp [h2],λj hj=>?_⟩
  cases j with
  |zero=>exact ⟨hk,ha⟩
  |succ j=>exact h3 j (by simpa using hj)
 |[],_::_,css,h=>by simp [Jl] at h
 |_::_,[],css,h=>by simp [Jl] at h
theorem Qjq:∀{ids:List Nat},Qam ids=true->∀i j,i<ids.length->j<ids.length->ids.getD i 0=ids.getD j 0->i=j
 |[],_,i,j,hi,_,_=>by simp at hi
 |
  a::r,h,i,j,hi,hj,e=>by
  unfold Qam at h
  simp only [Z4,Z14,Z53] at h
  have hm:∀k,k<r.length->a≠r.getD k 0:=λk hk=>Nat.ne_of_beq_eq_false (h.1 (r.getD k 0) (by rw [Zl,Z1 hk];exact Z10 hk))
  cases i with
  |
   zero=>cases j with
   |zero=>rfl
   |succ j=>exact (hm j (by simpa using hj) e).elim
  |
   succ i=>cases j with
   |zero=>exact (hm i (by simpa using hi) e.symm).elim
   |succ j=>rw [Qjq h.2 i j (by simpa using hi) (by simpa using hj) e]
theorem Qg9:∀{ts ids:List Nat} {css:J2} {S:Store},(Wy ts ids css S).length=S.length
 |[],_,_,S=>by simp [Wy]
 |_::_,[],_,S=>by simp [Wy]
 |_::_,_::_,[],S=>by simp [Wy]
 |t::ts,id::ids,cs::css,S=>by simp only [Wy];rw [Qg9,List.length_set]
theorem Qmw:∀{ts ids:List Nat} {css:J2} {S:Store},ids.length=ts.length->css.length=ts.length->Qam ids=true->(∀j,j<ts.length->ids.getD j 0<S.length) ->
  (∀j,j<ts.length->(Wy ts ids css S).getD (ids.getD j 0) .dead=.cells (ts.getD j 0) (css.getD j []))/\∀id,id∉ids->(Wy ts ids css S).getD id .dead=S.getD id .dead
 |[],[],[],S,_,_,_,_=>⟨λj hj=>by simp at hj,λid _=>rfl⟩
 |
  t::ts,id::ids,cs::css,S,h1,h2,h3,h4=>by
  unfold Qam at h3
  simp only [Z4,Z14,Z53] at h3
  obtain ⟨a,b⟩:=Qmw (ts:=ts) (ids:=ids) (css:=css) (S:=S.set id (.cells t cs)) (by simpa using h1) (by simpa using h2) h3.2 (λj hj=>by
   rw [List.length_set];exact h4 (j+1) (by simpa using hj))
  have hlt:=h4 0 (by simp)
  refine ⟨λj hj=>?_,λi hi=>?_⟩
  ·cases j with
   |
    zero=>
    simp only [Wy,List.getD_cons_zero]
    rw [b id (λhm=>Nat.ne_of_beq_eq_false (h3.1 id hm) rfl),getD_set_store (by simpa using hlt),if_pos rfl]
   |succ j=>simp only [Wy,Z73];exact a j (by simpa using hj)
  ·simp only [Z67,not_or] at hi
   simp only [Wy]
   rw [b i hi.2,getD_set_store (by simpa using hlt),if_neg hi.1]
 |[],_::_,_,_,h,_,_,_=>by simp at h
 |_::_,[],_,_,h,_,_,_=>by simp at h
 |[],[],_::_,_,_,h,_,_=>by simp at h
 |_::_,_::_,[],_,_,h,_,_=>by simp at h
theorem Qjz:∀{ts:List Nat} {css:J2},css.length=ts.length->(mkB ts css).length=ts.length/\∀j,(mkB ts css).getD j .dead=if j<ts.length then .cells (ts.getD j 0) (css.getD j []) else .dead
 |[],[],_=>⟨rfl,λj=>by simp [mkB]⟩
 |
  t::ts,cs::css,h=>by
  obtain ⟨a,b⟩:=Qjz (ts:=ts) (css:=css) (by simpa using h)
  refine ⟨by simp [mkB,a],λj=>?_⟩
  cases j with
  |zero=>simp [mkB]
  |succ j=>simp only [mkB,Z73,b j,Z8,Nat.add_lt_add_iff_right]
 |[],_::_,h=>by simp at h
 |_::_,[],h=>by simp at h
theorem Qni:∀(k i:Nat),(Wq i k).length=k/\∀j (h:j<(Wq i k).length),(Wq i k)[j]=.ptr (i+j) 0
 |0,i=>⟨rfl,λj h=>by simp [Wq] at h⟩
 |
  k+1,i=>by
  obtain ⟨a,b⟩:=Qni k (i+1)
  refine ⟨by simp [Wq,a],λj h=>?_⟩
  cases j with
  |zero=>rfl
  |
   succ j=>
   simp only [Wq,List.getElem_cons_succ]
   rw [b j (by simpa [Wq] using h)];congr 1;omega
theorem Qh6:∀(k i:Nat),(idsB i k).length=k/\∀j,j<k->(idsB i k).getD j 0=i+j
 |0,i=>⟨rfl,λj h=>by omega⟩
 |
  k+1,i=>by
  obtain ⟨a,b⟩:=Qh6 k (i+1)
  refine ⟨by simp [idsB,a],λj h=>?_⟩
  cases j with
  |zero=>rfl
  |succ j=>simp only [idsB,Z73];rw [b j (by omega)];omega
section
variable {P:Program} {C:Ctx}
theorem Qvy (hC:Q8 P C) (hF:InlF P C) {g:Nat} {f:Func} {c:Code} (hf:FunOK P g f c) {ts:List Nat} (hL:LoopsOK C (λR=>C.inlK 6) g ts.length c) {pk:J2->List V->Option Qa8}
  (H:∀css rest p,pk css rest=some p->∃(css0:J2) (rest0:List V) (dec:V->J2->Option p.ρ),css.map (·.map unexact)=css0/\rest.map Ws=rest0/\C.evBlk g (ifun f) ts css0 rest0 dec=p.m /\
   ∀v css' r,dec v css'=some r->Qci v=p.enc r/\imm3 (p.enc r)=true/\css'.map (·.map unexact)=p.encC r):SoundP P g (blkP ts pk):=by
 refine ⟨λR args S K=>?_,λargs S v S' M cargs h hN hsz hr=>?_⟩
 ·unfold blkP
  repeat' split
  all_goals first|rfl|skip
  rename_i p _
  cases p.m<;>rfl
 unfold blkP at h
 split at h
 ·simp at h
 rename_i ids rest hids
 split at h
 ·simp at h
 rename_i css hread
 split at h
 case isFalse=>simp at h
 rename_i hcond
 obtain ⟨honce,hrest⟩:=hcond
 split at h
 case h_2=>simp at h
 rename_i p hp
 simp only [Z7] at h
 obtain ⟨r,hm,hK⟩:=h
 simp only [K0,Zs,Z3] at hK
 obtain ⟨rfl,rfl⟩:=hK
 obtain ⟨hil,hargs⟩:=Qlf hids
 obtain ⟨_,hcl,hcells⟩:=Qho hread
 have hinj:=Qjq honce
 obtain ⟨css0,rest0,dec,hcss0,hrest0,link,hdec⟩:=H css rest p hp
 subst hcss0;subst hrest0
 have hargl:args.length=ts.length+rest.length:=by rw [hargs];simp [hil]
 have hget0:∀j,(css.map (·.map unexact)).getD j []=(css.getD j []).map unexact:=λj=>by
  simp only [Zl,Z75];cases css[j]?<;>rfl
 have hB:∀j,j<ts.length->∃b cap,M.μ (ids.getD j 0)=some (.blk b 0 cap)/\cargs.getD j Go.undef=.pointer (some ⟨b,0,none⟩)/\M.O b/\b<M.w.heap.size/\M.w.shape? b=some (ts.getD j 0,(css.getD j []).length) /\
   ∀i (h:i<(css.getD j []).length),∃cv,M.w.cell? ⟨b,0+i,none⟩=some cv/\cv.oneCell'=true/\Rep M cv (css.getD j [])[i]/\M.w.frozen? ⟨b,0+i,none⟩=false:=λj hj=>by
  have hk:=(hN.is (ids.getD j 0)).trans (hcells j hj).1
  have hjl:j<ids.length:=by omega
  have hx:=hr j (by omega)
  have e:args[j]'(by omega)=.ptr (ids.getD j 0) 0:=by
   simp only [hargs]
   rw [Z33 (by simpa using hjl),Z18,Zl,Z1 hjl];rfl
  rw [e] at hx
  obtain ⟨_,_,hpp⟩:=Ww hx
  obtain ⟨b,o,cap,hμ,hcv⟩:=hpp (by rw [hk];rfl)
  have hb:=hN.ok.blk _ _ hμ
  rw [hk] at hb
  obtain ⟨b',o',cap',e2,hO,hlt,⟨rfl,hsh⟩,hc⟩:=hb
  cases e2
  exact ⟨b,cap,hμ,hcv,hO,hlt,hsh,hc⟩
 have hblk:∀i j b o cap o' cap',i<ts.length->j<ts.length->M.μ (ids.getD i 0)=some (.blk b o cap)->M.μ (ids.getD j 0)=some (.blk b o' cap')->i=j:=λi j b o cap o' cap' hi hj h1 h2=>
  hinj i j (by omega) (by omega) (hN.ok.inj _ _ _ _ _ _ _ (by rw [hN.is,(hcells i hi).1];rfl) (by rw [hN.is,(hcells j hj).1];rfl) h1 h2)
 let M1:Mem:=⟨M.w,M.O,λj=>if j<ts.length then M.μ (ids.getD j 0) else none,λj=>if j<ts.length then .cells (ts.getD j 0) ((css.getD j []).map unexact) else .dead⟩
 have m1:∀{j},j<ts.length->M1.μ j=M.μ (ids.getD j 0)/\M1.S j=.cells (ts.getD j 0) ((css.getD j []).map unexact):=λ{j} hj=>⟨if_pos hj,if_pos hj⟩
 have m1n:∀{j},¬j<ts.length->M1.μ j=none/\M1.S j=.dead:=λ{j} hj=>⟨if_neg hj,if_neg hj⟩
 have own1:∀b,M1.own b↔∃j,j<ts.length/\∃o cap,M.μ (ids.getD j 0)=some (.blk b o cap):=λb=>by
  constructor
  ·rintro ⟨j,o,cap,h1,h2⟩
   by_cases hj:j<ts.length
   ·exact ⟨j,hj,o,cap,by rw [<-(m1 hj).1];exact h2⟩
   ·rw [(m1n hj).2] at h1;simp [Blk.own] at h1
  ·rintro ⟨j,hj,o,cap,h2⟩
   exact ⟨j,o,cap,by rw [(m1 hj).2];rfl,by rw [(m1 hj).1];exact h2⟩
 have hok1:M1.ok:=by
  refine ⟨λid loc h=>?_,λi j b o o' cap cap' h1 h2 h3 h4=>?_,λb hb=>hN.ok.low b hb⟩
  ·by_cases hj:id<ts.length
   ·rw [(m1 hj).1] at h
    rw [(m1 hj).2]
    obtain ⟨b,cap,hμ,_,hO,hlt,hsh,hc⟩:=hB id hj
    rw [hμ] at h;simp only [Zs] at h;subst h
    refine ⟨b,0,cap,rfl,hO,hlt,⟨rfl,by rw [Z29];exact hsh⟩,λi hi=>?_⟩
    obtain ⟨cv,a1,a2,a3,a4⟩:=hc i (by simpa using hi)
    refine ⟨cv,a1,a2,?_,a4⟩
    rw [Z18]
    have h3:=Qdn a3 (Z14.1 (hcells id hj).2 _ (Z10 _))
    exact Qdk (.imm h3)
   ·rw [(m1n hj).1] at h;simp at h
  ·have hi:i<ts.length:=by
    by_cases hi:i<ts.length
    ·exact hi
    ·rw [(m1n hi).1] at h3;simp at h3
   have hj:j<ts.length:=by
    by_cases hj:j<ts.length
    ·exact hj
    ·rw [(m1n hj).1] at h4;simp at h4
   rw [(m1 hi).1] at h3;rw [(m1 hj).1] at h4
   exact hblk i j b o cap o' cap' hi hj h3 h4
 obtain ⟨hml,hmg⟩:=Qjz (ts:=ts) (css:=css.map (·.map unexact)) (by simpa using hcl)
 have hN1:Now M1 (mkB ts (css.map (·.map unexact))):=by
  refine ⟨hok1,λid=>?_,λid hid=>(m1n (by omega)).1⟩
  rw [hmg id]
  by_cases hj:id<ts.length
  ·rw [(m1 hj).2,if_pos hj,hget0]
  ·rw [(m1n hj).2,if_neg hj]
 obtain ⟨hpl,hpg⟩:=Qni ts.length 0
 have hargs1:∀j (h:j<(Wq 0 ts.length++rest.map Ws).length),Rep M1 (cargs.getD j Go.undef) (Wq 0 ts.length++rest.map Ws)[j]:=λj hj=>by
  by_cases hk:j<ts.length
  ·rw [Z33 (by omega),hpg j (by omega),Z25]
   obtain ⟨b,cap,hμ,hcv,_⟩:=hB j hk
   rw [hcv]
   exact .ref ⟨rfl,by rw [(m1 hk).1,hμ];rfl,λ_=>⟨b,0,cap,by rw [(m1 hk).1];exact hμ,by simp⟩⟩
  ·have hj':j-ts.length<rest.length:=by simp [hpl] at hj;omega
   rw [Z37 (by omega),Z18]
   have hx:=hr j (by omega)
   have e:args[j]'(by omega)=rest[j-ts.length]:=by
    simp only [hargs]
    rw [Z37 (by simp;omega)]
    congr 1;simp;omega
   rw [e] at hx
   have h3:=Qaa hx (Z14.1 hrest _ (Z10 hj'))
   have e2:j-(Wq 0 ts.length).length=j-ts.length:=by rw [hpl]
   simp only [e2]
   exact Qdd (.imm h3)
 have ih:=Qcw hC hF 6
 rw [hm] at link
 unfold Ctx.evBlk at link
 rw [Qcg ih] at link
 simp only [Z7] at link
 obtain ⟨⟨us,S1⟩,⟨⟨e,env',S2⟩,h1,h2⟩,h3⟩:=link
 obtain ⟨hne,h2',rfl⟩:=Qg8 h2
 split at h3
 case h_2=>simp at h3
 rename_i css' hread'
 obtain ⟨hd1,hd2,hd3⟩:=hdec _ _ _ h3
 rw [Qgx hf] at h1
 have hlen1:(Wq 0 ts.length++rest.map Ws).length=ts.length+rest.length:=by simp [hpl]
 have h1':C.evB (C.inlK 6) g (mkB ts (css.map (·.map unexact))).length c ((Wq 0 ts.length++rest.map Ws)++List.replicate (f.ntmps-(Wq 0 ts.length++rest.map Ws).length) .undef) (mkB ts (css.map (·.map unexact))) KK=some (e,env',S1):=by
  rw [hml,hlen1];rw [Z29] at h1;exact h1
 have hcalls:=Qg6 (S:=mkB ts (css.map (·.map unexact))) hC ih hf (by rw [hml];exact hL) hN1 (by rw [hlen1];omega) hargs1 h1' hne h2'
 unfold CallR
 rw [hf.enters]
 refine hcalls.mono λex w' ⟨cv,M',he,hw,h5,h6,h7,h8⟩=>?_
 subst he;subst hw
 obtain ⟨hil',hcl',hcells'⟩:=Qho hread'
 obtain ⟨hidl,hidg⟩:=Qh6 ts.length 0
 have hc':∀j,j<ts.length->M'.S j=.cells (ts.getD j 0) (css'.getD j [])/\(css'.getD j []).all imm1=true:=λj hj=>by
  have:=hcells' j hj
  rw [hidg j hj,Z25] at this
  exact ⟨(h6.is j).trans this.1,this.2⟩
 have hB':∀j,j<ts.length->∃b cap,M.μ (ids.getD j 0)=some (.blk b 0 cap)/\M'.O b/\M'.w.shape? b=some (ts.getD j 0,(css'.getD j []).length) /\
   ∀i (h:i<(css'.getD j []).length),∃cv,M'.w.cell? ⟨b,0+i,none⟩=some cv/\cv.oneCell'=true/\Rep M' cv (css'.getD j [])[i]/\M'.w.frozen? ⟨b,0+i,none⟩=false:=λj hj=>by
  obtain ⟨b,cap,hμ,hcv,_⟩:=hB j hj
  have href:M1.Ref (.pointer (some ⟨b,0,none⟩)) (.ptr j 0):=⟨rfl,by rw [(m1 hj).1,hμ];rfl,λ_=>⟨b,0,cap,by rw [(m1 hj).1];exact hμ,by simp⟩⟩
  obtain ⟨_,_,hpp⟩:=h5.refs _ _ href
  obtain ⟨b',o',cap',hμ',e⟩:=hpp (by rw [(hc' j hj).1];rfl)
  have hb:=h6.ok.blk _ _ hμ'
  rw [(hc' j hj).1] at hb
  obtain ⟨b2,o2,cap2,e2,hO,hlt,⟨rfl,hsh⟩,hc⟩:=hb
  cases e2
  simp only [Value.pointer.injEq,Zs,Addr.mk.injEq] at e
  obtain ⟨rfl,_,_⟩:=e
  exact ⟨b,cap,hμ,hO,hsh,hc⟩
 have hOO:∀b,b<M.w.heap.size->(M'.O b↔M.O b):=λb hb=>by
  by_cases ho:M1.own b
  ·obtain ⟨j,hj,o,cap,hμ⟩:=(own1 b).1 ho
   obtain ⟨b',cap',hμ',hO',_⟩:=hB' j hj
   rw [hμ'] at hμ;simp only [Zs,Loc.blk.injEq] at hμ
   obtain ⟨rfl,_,_⟩:=hμ
   exact ⟨λ_=>by obtain ⟨b2,cap2,hμ2,_,hO2,_⟩:=hB j hj;rw [hμ'] at hμ2;cases hμ2;exact hO2,λ_=>hO'⟩
  ·exact (h5.keep b hb ho).2
 have mono:∀{cv:Value} {v:V},Rep0 M'.O M'.w cv v->Rep0 M.O M'.w cv v:=λ{cv v} h=>h.mono (λa v _ h=>h) λa v hno hcell hOa=>hno ((hOO _ (hN.ok.low _ hOa)).2 hOa)
 let M2:Mem:=⟨M'.w,M.O,M.μ,λid=>(Wy ts ids (p.encC r) S).getD id .dead⟩
 have hlt:∀j,j<ts.length->ids.getD j 0<S.length:=λj hj=>Wm (hcells j hj).1 (by simp)
 have hencl:(p.encC r).length=ts.length:=by rw [<-hd3];simpa using hcl'
 have hencg:∀j,(p.encC r).getD j []=(css'.getD j []).map unexact:=λj=>by
  rw [<-hd3];simp only [Zl,Z75];cases css'[j]?<;>rfl
 obtain ⟨w1,w2⟩:=Qmw (S:=S) hil hencl honce hlt
 have s2:∀id,id∉ids->M2.S id=M.S id:=λid hid=>(w2 id hid).trans (hN.is id).symm
 have s1:∀j,j<ts.length->M2.S (ids.getD j 0)=.cells (ts.getD j 0) ((css'.getD j []).map unexact):=λj hj=>(w1 j hj).trans (by rw [hencg])
 have hmem:∀id,id∈ids->∃j,j<ts.length/\id=ids.getD j 0:=λid hid=>by
  obtain ⟨j,hj,e⟩:=Z74 hid
  exact ⟨j,by omega,by rw [Zl,Z1 hj];exact e.symm⟩
 have ownM:∀b,M1.own b->M.own b:=λb hb=>by
  obtain ⟨j,hj,o,cap,hμ⟩:=(own1 b).1 hb
  exact ⟨_,o,cap,by rw [hN.is,(hcells j hj).1];rfl,hμ⟩
 have hst:Step M M2:=by
  refine ⟨h5.size,h5.os,h5.tape,h5.output,λb hb hn=>⟨(h5.keep b hb λho=>hn (ownM b ho)).1,Iff.rfl⟩,λb _ h=>h,λb _ ⟨id,o,cap,h1,h2⟩=>?_,λcv v ⟨h1,h2⟩=>⟨h1,?_⟩⟩
  ·by_cases hid:id∈ids
   ·obtain ⟨j,hj,rfl⟩:=hmem id hid
    exact ⟨_,o,cap,by rw [hN.is,(hcells j hj).1];rfl,h2⟩
   ·exact ⟨id,o,cap,by rw [<-s2 id hid];exact h1,h2⟩
  ·have cs:∀id,id∈ids->∃t a b,M.S id=.cells t a/\M2.S id=.cells t b:=λid hid=>by
    obtain ⟨j,hj,rfl⟩:=hmem id hid
    exact ⟨_,_,_,(hN.is _).trans (hcells j hj).1,s1 j hj⟩
   have two:∀id ver {p:V->Prop},(((M.μ id).isSome=true/\verLe (M.S id) ver)/\∀c,contentB (M.S id) ver=some c->p c)->(((M2.μ id).isSome=true/\verLe (M2.S id) ver)/\∀c,contentB (M2.S id) ver=some c->p c):=λid ver p h2=>by
    by_cases hid:id∈ids
    ·obtain ⟨t,a,b,e1,e2⟩:=cs id hid
     rw [e2]
     exact ⟨⟨h2.1.1,λv hv=>by simp [verB] at hv⟩,λc hc=>by simp [contentB] at hc⟩
    ·rw [s2 id hid];exact h2
   have onep:∀id {p:Prop},((M.μ id).isSome=true/\((M.S id).fix=true->p))->((M2.μ id).isSome=true/\((M2.S id).fix=true->p)):=λid p h2=>by
    refine ⟨h2.1,λhf=>h2.2 ?_⟩
    by_cases hid:id∈ids
    ·obtain ⟨t,a,b,e1,e2⟩:=cs id hid;rw [e1];rfl
    ·rw [<-s2 id hid];exact hf
   cases v<;>simp only [Mem.Ref1] at h2 ⊢
   ·exact onep _ h2
   ·exact two _ _ h2
   ·exact two _ _ h2
   ·exact two _ _ h2
 have hok2:M2.ok:=by
  refine ⟨λid loc h=>?_,λi j b o o' cap cap' h1 h2 h3 h4=>?_,λb hb=>Z12 (hN.ok.low b hb) h5.size⟩
  ·have h:M.μ id=some loc:=h
   by_cases hid:id∈ids
   ·obtain ⟨j,hj,rfl⟩:=hmem id hid
    rw [s1 j hj]
    obtain ⟨b,cap,hμ,_,hsh,hc⟩:=hB' j hj
    obtain ⟨b0,cap0,hμ0,_,hO0,hlt0,_⟩:=hB j hj
    rw [hμ] at hμ0;cases hμ0
    rw [hμ] at h;simp only [Zs] at h;subst h
    refine ⟨b,0,cap,rfl,hO0,Z12 hlt0 h5.size,⟨rfl,by rw [Z29];exact hsh⟩,λi hi=>?_⟩
    obtain ⟨cv,a1,a2,a3,a4⟩:=hc i (by simpa using hi)
    refine ⟨cv,a1,a2,?_,a4⟩
    rw [Z18]
    exact Qdk (.imm (mono (Qdn a3 (Z14.1 (hc' j hj).2 _ (Z10 _)))))
   ·rw [s2 id hid]
    refine Qbb hN.ok hst (hN.ok.blk id loc h) λho b o cap he=>?_
    subst he
    have hO:=hN.ok.own ⟨id,o,cap,ho,h⟩
    refine ⟨(h5.keep b (hN.ok.low b hO) λho1=>?_).1,hO⟩
    obtain ⟨j,hj,o',cap',hμ⟩:=(own1 b).1 ho1
    have:=hN.ok.inj id (ids.getD j 0) b o o' cap cap' ho (by rw [hN.is,(hcells j hj).1];rfl) h hμ
    exact hid (by rw [this];rw [Zl,Z1 (show j<ids.length by omega)];exact Z10 _)
  ·have key:∀i,(M2.S i).own=true->(M.S i).own=true:=λi hi=>by
    by_cases hid:i∈ids
    ·obtain ⟨j,hj,rfl⟩:=hmem i hid
     rw [hN.is,(hcells j hj).1];rfl
    ·rw [<-s2 i hid];exact hi
   exact hN.ok.inj i j b o o' cap cap' (key i h1) (key j h2) h3 h4
 refine ⟨M2,rfl,hst,⟨hok2,λid=>rfl,λid hid=>hN.fresh id (by rwa [Qg9] at hid)⟩,?_,by rw [Qg9];exact Z5 _⟩
 have h9:=Qmk h7
 rw [hd1] at h9
 exact .imm (mono (Qja h9 hd2))
theorem Qg2 (hT:C.T.check P=true) (hm:P.follows .mixedOrders=true) (hc:C.clone=λ_=>none) (call:∀g vs p,C.call g vs=some p->SoundC P g vs p) (hF:InlF P C) {g:Nat} {f:Func} {c:Code} (hf:FunOK P g f c)
  (hl:C.L=λ_ _ _ _=>none) {ts:List Nat} {pk:J2->List V->Option Qa8} (H:∀css rest p,pk css rest=some p->∃(css0:J2) (rest0:List V) (dec:V->J2->Option p.ρ),css.map (·.map unexact)=css0/\rest.map Ws=rest0/\C.evBlk g (ifun f) ts css0 rest0 dec=p.m /\
   ∀v css' r,dec v css'=some r->Qci v=p.enc r/\imm3 (p.enc r)=true/\css'.map (·.map unexact)=p.encC r) (hmt:C.meth=λ_ _=>none:=by rfl):SoundP P g (blkP ts pk):=
 Qvy ⟨hT,hm,λg vs p _ _ h=>call g vs p h,λg e _ h=>by rw [hc] at h;simp at h,λt m g h=>by rw [hmt] at h;simp at h⟩ hF hf (noLoops hl _ _ _ _) H
end
def cloneP (x0:V) (e bytes:Nat):Qdq:=λ_ args S K=>match args with
 |
  [x]=>match Wh x0 (immOf S x),lenOf S x with
  |some c,some n=>if n*bytes<=140737488355328 then K (.sref S.length 0) (S++[.arr 0 true e c]) else none
  |_,_=>none
 |_=>none
def Qof (t tb:Nat) (p0 p1 p2 p3 p4 p5 p6 p7:String) (a0 a1 a2 a3 a4 a5 a6 a7:Array Edge) (i0 i1 i2 i3:Nat):Code:=
 .seq (.region i0 #[⟨some 2,.assign (.const (.slice none 0 0)),t,p0,a0,none⟩] false)
  (.seq (.seq (.region i1 #[⟨some 3,.move (.tmp 0),t,p1,a1,none⟩,⟨some 4,.binOp .eql t (.tmp 3) (.const (.slice none 0 0)) t,tb,p2,a2,none⟩] false)
    (.cond (.tmp 4) (.seq (.region i2 #[⟨some 2,.assign (.const (.slice none 0 0)),t,p3,a3,none⟩] false) .ret) .skip))
   (.seq (.region i3 #[⟨some 5,.buildSlice t 0 #[],t,p4,a4,none⟩,⟨some 6,.move (.tmp 0),t,p5,a5,none⟩,
     ⟨some 7,.call {callee:=.builtin .append,args:=#[.tmp 5,.tmp 6],argTypes:=#[t,t]},t,p6,a6,none⟩,⟨some 2,.assign (.tmp 7),t,p7,a7,none⟩] false) .ret))
section
variable {P:Program} {C:Ctx}
theorem Jq {ops:Array Oper} {Q:Exit->Act->World->Prop} {i:Nat} {rest:List Nat} {a:Act} {w:World} {o:Oper} (ho:ops[i]? = some o) (hg:o.guard=none) (h:o.wp P a w (wpOps P ops Q rest) Q):wpOps P ops Q (i::rest) a w:=by
 simp only [wpOps,ho]
 rw [if_pos (by simp [Region.wanted,hg])]
 exact .inl h
theorem Jr {a:Act} {dst:Option Tmp} {v:Value}:(a.put dst v).tmps.size=a.tmps.size:=by cases dst<;>simp [Act.put]
theorem eval_put {a:Act} {d:Nat} {v:Value} (h:d<a.tmps.size):(a.put (some d) v).eval (.tmp d)=v:=by simp [Act.put,Act.eval,h]
theorem Qay {a:Act} {d t:Nat} {v:Value} (h:d≠t):(a.put (some d) v).eval (.tmp t)=a.eval (.tmp t):=Act.eval_put λd' hd=>by simp only [Zs] at hd;subst hd;exact λe=>h (by cases e;rfl)
theorem Qsp {t e:Nat} {x0 x c:V} {S:Store} {n:Nat} (hd:(C.ty t).d=.slice e) (hbad:C.bad e=false) (hb0:(C.ty e).bytes≠0) (h1:isExact x0=true) (h2:isNil x0=true) (h3:zOf x0=(C.ty e).size)
  (happ:Wh x0 (immOf S x)=some c) (hn:lenOf S x=some n) (hle:n*(C.ty e).bytes<=140737488355328):C.appendV t S x0 x K0=some (.sref S.length 0,S++[.arr 0 true e c]):=by
 have hl0:lenOf S x0=some 0:=by
  unfold isNil at h2
  split at h2<;>first|rfl|simp at h2
 unfold Ctx.appendV
 simp only [hd,hbad,hl0,hn,Z16,if_false,hb0,Z25,if_pos hle]
 cases x0<;>simp [isExact] at h1<;>subst h1<;>simp only [isExact,h2,h3,happ,and_self,if_true,Zd]
theorem Qvg (hT:C.T.check P=true) {g:Nat} {f:Func} {t tb e:Nat} {p0 p1 p2 p3 p4 p5 p6 p7:String} {a0 a1 a2 a3 a4 a5 a6 a7:Array Edge} {i0 i1 i2 i3:Nat}
  (hf:FunOK P g f (Qof t tb p0 p1 p2 p3 p4 p5 p6 p7 a0 a1 a2 a3 a4 a5 a6 a7 i0 i1 i2 i3)) (hres:f.results = #[.tmp 2]) (hnt:8<=f.ntmps)
  (hd:(C.ty t).d=.slice e) (hbad:C.bad e=false) {bytes:Nat} (hby:(C.ty e).bytes=bytes) (hb0:bytes≠0) {x0:V} (hb:C.buildSliceV t 0 []=some x0) (h1:isExact x0=true) (h2:isNil x0=true) (h3:zOf x0=(C.ty e).size):SoundP P g (cloneP x0 e bytes):=by
 subst hby
 refine ⟨λR args S K=>?_,λargs S v S' M cargs h hN hsz hr=>?_⟩
 ·unfold cloneP
  repeat' split
  all_goals rfl
 simp only [cloneP,K0] at h
 split at h
 case h_2=>simp at h
 rename_i x
 split at h
 case h_2=>simp at h
 rename_i c n happ hn
 split at h
 case isFalse=>simp at h
 rename_i hle
 simp only [Zs,Z3] at h
 obtain ⟨rfl,rfl⟩:=h
 obtain ⟨cx,rfl⟩:∃cx,cargs = #[cx]:=⟨cargs.getD 0 Go.undef,by
  apply Array.ext
  ·simpa using hsz
  ·intro i hi hi'
   have:i=0:=by simp at hi';exact hi'
   subst this;simp [Z0,hi]⟩
 have hx:Rep M cx x:=by simpa using hr 0 (by simp)
 obtain ⟨A,cap,rfl⟩:=Qiz hN.ok (λid _=>hN.is id) hn hx
 have hu:=(Wg hT hd).1
 have hq:=hN.fresh S.length (Z5 _)
 have hev:=Qsp hd hbad hb0 h1 h2 h3 happ hn hle
 unfold CallR
 rw [hf.enters]
 simp only
 refine calls_of_wp hf.get hf.body ?_
 generalize hact:(⟨#[.slice A n cap]++Array.replicate (f.ntmps-(#[Value.slice A n cap]:Array Value).size) Go.undef,[]⟩:Act)=act
 have hs0:8<=act.tmps.size:=by rw [<-hact];simp;omega
 have he0:act.eval (.tmp 0)=.slice A n cap:=by
  rw [<-hact]
  show (#[Value.slice A n cap]++Array.replicate _ Go.undef).getD 0 Go.undef=_
  rw [Z0,Z44 (by simp)];rfl
 have hdf:act.defers=[]:=by rw [<-hact]
 clear hact
 refine wp_seq (wp_region ?_)
 show wpOps P _ _ [0] _ _
 refine Jq (o:=⟨some 2,.assign (.const (.slice none 0 0)),t,p0,a0,none⟩) rfl rfl (W3 (cv:=.slice none 0 0) (w':=M.w) (by simp [execOp,Act.eval]) ?_)
 show (Code.seq _ _).wp P _ (act.put (some 2) (.slice none 0 0)) M.w
 refine wp_seq (wp_seq (wp_region ?_))
 show wpOps P _ _ [0,1] _ _
 refine Jq (o:=⟨some 3,.move (.tmp 0),t,p1,a1,none⟩) rfl rfl (W3 (cv:=.slice A n cap) (w':=M.w) (by simp only [execOp,Qay (show (2:Nat)≠0 by decide),he0];rfl) ?_)
 refine Jq (o:=⟨some 4,.binOp .eql t (.tmp 3) (.const (.slice none 0 0)) t,tb,p2,a2,none⟩) rfl rfl (W3 (cv:=.bool A.isNone) (w':=M.w) (by
  have e3:((act.put (some 2) (.slice none 0 0)).put (some 3) (.slice A n cap)).eval (.tmp 3)=.slice A n cap:=eval_put (by simp only [Jr];omega)
  have ec:((act.put (some 2) (.slice none 0 0)).put (some 3) (.slice A n cap)).eval (.const (.slice none 0 0))=.slice none 0 0:=rfl
  simp only [execOp,e3,ec]
  have:=Lib.run_eql_slice_nil (P:=P) M.w t e A n cap 0 0 hu
  simp [eqGuard,this]) ?_)
 generalize hact2:(((act.put (some 2) (.slice none 0 0)).put (some 3) (.slice A n cap)).put (some 4) (.bool A.isNone))=act2
 have hs2:8<=act2.tmps.size:=by rw [<-hact2];simp only [Jr];exact hs0
 have he2:act2.eval (.tmp 0)=.slice A n cap:=by rw [<-hact2,Qay (by decide),Qay (by decide),Qay (by decide)];exact he0
 have he4:act2.eval (.tmp 4)=.bool A.isNone:=by rw [<-hact2];exact eval_put (by simp only [Jr];omega)
 have hdf2:act2.defers=[]:=by rw [<-hact2];simp only [Qax,hdf]
 clear hact2
 show (Code.cond _ _ _).wp P _ act2 M.w
 refine wp_cond he4 ?_
 have fin:∀(act3:Act) (cv:Value) (M':Mem),8<=act3.tmps.size->act3.defers=[]->act3.eval (.tmp 2)=cv->Rep M' cv (.sref S.length 0)->Post M M' S (S++[.arr 0 true e c]) [S.length] ->
   bodyPost P f (fun | .returned cv,w''=>(∃M':Mem,M'.w=w''/\Step M M'/\Now M' (S++[.arr 0 true e c])/\Rep M' cv (.sref S.length 0)/\S.length<=(S++[Blk.arr 0 true e c]).length)|_,_=>False) .ret act3 M'.w:=by
  intro act3 cv M' hs3 hd3 he3 hrep hp
  refine ⟨hd3,cv,?_,M',rfl,hp.step,hp.now hN,hrep,hp.len⟩
  have:act3.tmps.getD 2 Go.undef=cv:=by rw [<-he3];simp [Act.eval,Z0]
  rw [Z0] at this
  simp [results,hres,this]
 cases A with
 |
  none=>
  have hn0:n=0:=by
   obtain ⟨A',n',cap',fl,cf,e1,hfl,hz,hle',hm,_⟩:=Yu hN.ok (λid _=>hN.is id) hx (y:=x) (by
    unfold Wh at happ
    split at happ<;>first|(simp at happ;done)|(rename_i hh;rw [hh];rfl))
   simp only [Value.slice.injEq] at e1
   obtain ⟨e1,e2,e3⟩:=e1
   have:=hm e1.symm
   omega
  subst hn0
  simp only [Option.isNone_none,if_true]
  refine wp_seq (wp_region ?_)
  show wpOps P _ _ [0] _ _
  refine Jq (o:=⟨some 2,.assign (.const (.slice none 0 0)),t,p3,a3,none⟩) rfl rfl (W3 (cv:=.slice none 0 0) (w':=M.w) (by simp [execOp,Act.eval]) ?_)
  show Code.ret.wp P _ _ _
  refine wp_ret ?_
  have hfc:flatV c=some (0,[]):=by
   have hle2:lenV (immOf S x)=some 0:=by
    obtain ⟨A',n',cap',fl,cf,e1,hfl,_⟩:=Yu hN.ok (λid _=>hN.is id) hx (y:=x) (by
     unfold Wh at happ
     split at happ<;>first|(simp at happ;done)|(rename_i hh;rw [hh];rfl))
    simp only [Value.slice.injEq] at e1
    obtain ⟨_,rfl,_⟩:=e1
    exact (Qk hfl).2
   obtain ⟨A',n',cap',fl,cf,e1,hfl,_⟩:=Yu hN.ok (λid _=>hN.is id) hx (y:=x) (by
    unfold Wh at happ
    split at happ<;>first|(simp at happ;done)|(rename_i hh;rw [hh];rfl))
   simp only [Value.slice.injEq] at e1
   obtain ⟨_,rfl,_⟩:=e1
   have hl:=Qk hfl
   have hfl0:fl=[]:=Z6 (by rw [hl.1];simp)
   subst hfl0
   have hx0:flatV x0=some (0,[]):=by
    unfold isNil at h2
    split at h2<;>first|(simp at h2;done)|rfl|skip
    rename_i xx z
    have hz0:0<z:=by
     simp only [zOf] at h3
     obtain ⟨_,_,_,_,_⟩:=Wp hT (t:=e) (by unfold Ctx.bad at hbad;intro hh;rw [hh] at hbad;simp at hbad)
     unfold Ctx.buildSliceV at hb
     rw [hd] at hb
     simp only [hbad,Z16,if_false] at hb
     split at hb
     ·split at hb
      ·rename_i hh;rw [h3];exact Nat.pos_of_ne_zero hh.2
      ·simp at hb
     ·simp at hb
    simp [flatV,hz0]
   exact (J4 happ hx0 hfl).1
  obtain ⟨hrep,hp⟩:=Qiv hN.ok hq hfc (e:=e)
  exact fin _ (.slice none 0 0) (M.push S.length (.arr 0 true e c) (.nil none) M.w) (by simp only [Jr];exact hs2) (by rw [Qax];exact hdf2) (eval_put (by omega)) hrep hp
 |
  some ad=>
  simp only [Option.isNone_some,Z16,if_false]
  refine wp_skip ?_
  refine wp_seq (wp_region ?_)
  show wpOps P _ _ [0,1,2,3] _ _
  obtain ⟨cb,w1,hrunb,hgb,hrb,_⟩:=Qgd (M:=M) hT hN.ok (qs:=#[]) hb (by simp) (λj hj=>by simp at hj)
  have hpb:=post_world hN.ok S hgb
  refine Jq (o:=⟨some 5,.buildSlice t 0 #[],t,p4,a4,none⟩) rfl rfl (W3 (cv:=cb) (w':=w1) (by simp only [execOp,Sem.run_bind,Array.map_empty] at hrunb ⊢;rw [hrunb];rfl) ?_)
  refine Jq (o:=⟨some 6,.move (.tmp 0),t,p5,a5,none⟩) rfl rfl (W3 (cv:=.slice (some ad) n cap) (w':=w1) (by simp only [execOp,Qay (show (5:Nat)≠0 by decide),he2];rfl) ?_)
  obtain ⟨cv,v',M',S'',wr,hruna,hK,hra,hpa,hwa⟩:=Qfa (M:={M with w:=w1}) (tx:=t) (ty:=t) hT hpb.ok (λ_=>hq) (x:=x0) (y:=x) (cx:=cb) (cy:=.slice (some ad) n cap) (λid hid=>by
    exfalso
    cases x0<;>simp [isExact] at h1<;>simp [refs1] at hid) (λid _=>hN.is id) hev (.imm hrb) (hpb.step.rep hN.ok hx) hu
  simp only [K0,Zs,Z3] at hK
  obtain ⟨rfl,rfl⟩:=hK
  refine Jq (o:=⟨some 7,.call {callee:=.builtin .append,args:=#[.tmp 5,.tmp 6],argTypes:=#[t,t]},t,p6,a6,none⟩) rfl rfl (W3 (cv:=cv) (w':=M'.w) (by
   have e5:((act2.put (some 5) cb).put (some 6) (.slice (some ad) n cap)).eval (.tmp 5)=cb:=by rw [Qay (by decide)];exact eval_put (by omega)
   have e6:((act2.put (some 5) cb).put (some 6) (.slice (some ad) n cap)).eval (.tmp 6)=.slice (some ad) n cap:=eval_put (by simp only [Jr];omega)
   simp only [execOp,resolve,invoke,Sem.run_bind,Sem.run_pure,Result.andThen_ok,List.map_toArray,List.map_cons,Z86,e5,e6,builtin,hruna]) ?_)
  refine Jq (o:=⟨some 2,.assign (.tmp 7),t,p7,a7,none⟩) rfl rfl (W3 (cv:=cv) (w':=M'.w) (by
   simp only [execOp,Sem.run_pure]
   rw [eval_put (by simp only [Jr];omega)]) ?_)
  show Code.ret.wp P _ _ _
  refine wp_ret ?_
  have hqr:S.length∈wr:=by
   by_cases hq':S.length∈wr
   ·exact hq'
   ·have:=hpa.keepS _ hq'
    simp [Zl] at this
  have hwr:wr ⊆ [S.length]:=λi hi=>by
   have:=hwa hi
   simp only [Z32] at this
   rcases this with h4|h4
   ·exfalso;cases x0<;>simp [isExact] at h1<;>simp [refs1] at h4
   ·exact h4
  refine fin _ cv M' (by simp only [Jr];exact hs2) (by simp only [Qax];exact hdf2) (eval_put (by simp only [Jr];omega)) hra ⟨hpb.step.trans hpa.step,hpa.ok,λid hid=>?_,λid hid=>?_,λid hid=>?_,λid hid=>?_,hpa.μ',hpa.len,hpa.len'⟩
  ·have:id=S.length:=by simpa using hid
   subst this;exact hpa.wrS _ hqr
  ·exact hpa.keepM id λh4=>hid (hwr h4)
  ·exact hpa.keepS id λh4=>hid (hwr h4)
  ·exact hpa.μ id hid
end
end Go.Proofs.YtjfipepaaddlmaaGreatDoor.A
end
section
namespace Go.Proofs
open Go.Shelf
def Tryz.lays160_ren:Go.Shelf.Ren:=⟨fun|160=>205|232=>234|231=>207|227=>208|234=>235|233=>209|236=>236|235=>210|228=>238|271=>251|151=>172|197=>189|120=>256|152=>213|260=>229|137=>164|119=>240|224=>192|225=>191|217=>190|266=>230|n=>n,fun|9=>9|4=>4|3=>3|5=>5|117=>293|116=>292|0=>0|124=>296|21=>21|105=>276|46=>170|119=>314|139=>317|138=>316|n=>n,fun|3=>3|4=>4|n=>n⟩
theorem Tryz.lays160:Go.Proofs.Lays.n160 Tryz.prog Tryz.lays160_ren:={
 mixed:=by kernel_rfl
 f119:=Tryz.func240.trans (congrArg some (by kernel_rfl))
 f120:=Tryz.func256.trans (congrArg some (by kernel_rfl))
 f137:=Tryz.func164.trans (congrArg some (by kernel_rfl))
 f151:=Tryz.func172.trans (congrArg some (by kernel_rfl))
 f152:=Tryz.func213.trans (congrArg some (by kernel_rfl))
 f160:=Tryz.func205.trans (congrArg some (by kernel_rfl))
 f197:=Tryz.func189.trans (congrArg some (by kernel_rfl))
 f217:=Tryz.func190.trans (congrArg some (by kernel_rfl))
 f224:=Tryz.func192.trans (congrArg some (by kernel_rfl))
 f225:=Tryz.func191.trans (congrArg some (by kernel_rfl))
 f227:=Tryz.func208.trans (congrArg some (by kernel_rfl))
 f228:=Tryz.func238.trans (congrArg some (by kernel_rfl))
 f231:=Tryz.func207.trans (congrArg some (by kernel_rfl))
 f232:=Tryz.func234.trans (congrArg some (by kernel_rfl))
 f233:=Tryz.func209.trans (congrArg some (by kernel_rfl))
 f234:=Tryz.func235.trans (congrArg some (by kernel_rfl))
 f235:=Tryz.func210.trans (congrArg some (by kernel_rfl))
 f236:=Tryz.func236.trans (congrArg some (by kernel_rfl))
 f260:=Tryz.func229.trans (congrArg some (by kernel_rfl))
 f266:=Tryz.func230.trans (congrArg some (by kernel_rfl))
 f271:=Tryz.func251.trans (congrArg some (by kernel_rfl))
 t0:=Tryz.underlying0
 a0:=Tryz.isAgg0
 z0:=Tryz.sizeOf0
 v0:=Tryz.zeroValue0
 t3:=Tryz.underlying3
 a3:=Tryz.isAgg3
 z3:=Tryz.sizeOf3
 v3:=Tryz.zeroValue3
 t4:=Tryz.underlying4
 a4:=Tryz.isAgg4
 z4:=Tryz.sizeOf4
 v4:=Tryz.zeroValue4
 t5:=Tryz.underlying5
 a5:=Tryz.isAgg5
 z5:=Tryz.sizeOf5
 v5:=Tryz.zeroValue5
 t9:=Tryz.underlying9
 a9:=Tryz.isAgg9
 z9:=Tryz.sizeOf9
 v9:=Tryz.zeroValue9
 t21:=Tryz.underlying21
 a21:=Tryz.isAgg21
 z21:=Tryz.sizeOf21
 v21:=Tryz.zeroValue21
 t46:=Tryz.underlying170
 a46:=Tryz.isAgg170
 z46:=Tryz.sizeOf170
 v46:=Tryz.zeroValue170
 t105:=Tryz.underlying276
 a105:=Tryz.isAgg276
 z105:=Tryz.sizeOf276
 v105:=Tryz.zeroValue276
 t116:=Tryz.underlying292
 a116:=Tryz.isAgg292
 z116:=Tryz.sizeOf292
 t117:=Tryz.underlying293
 a117:=Tryz.isAgg293
 z117:=Tryz.sizeOf293
 v117:=Tryz.zeroValue293
 t119:=Tryz.underlying314
 a119:=Tryz.isAgg314
 z119:=Tryz.sizeOf314
 t124:=Tryz.underlying296
 a124:=Tryz.isAgg296
 z124:=Tryz.sizeOf296
 v124:=Tryz.zeroValue296
 t138:=Tryz.underlying316
 a138:=Tryz.isAgg316
 z138:=Tryz.sizeOf316
 v138:=Tryz.zeroValue316
 t139:=Tryz.underlying317
 a139:=Tryz.isAgg317
 z139:=Tryz.sizeOf317
 v139:=Tryz.zeroValue317
 g3:=by kernel_rfl
 g4:=by kernel_rfl}
def Tryz.lays161_ren:Go.Shelf.Ren:=⟨fun|161=>163|231=>207|227=>208|233=>209|235=>210|228=>238|197=>189|151=>172|260=>229|152=>213|137=>164|119=>240|224=>192|225=>191|217=>190|266=>230|n=>n,fun|9=>9|4=>4|3=>3|5=>5|117=>293|116=>292|0=>0|124=>296|105=>276|21=>21|119=>314|46=>170|139=>317|138=>316|n=>n,fun|3=>3|4=>4|n=>n⟩
theorem Tryz.lays161:Go.Proofs.Lays.n161 Tryz.prog Tryz.lays161_ren:={
 mixed:=by kernel_rfl
 f119:=Tryz.func240.trans (congrArg some (by kernel_rfl))
 f137:=Tryz.func164.trans (congrArg some (by kernel_rfl))
 f151:=Tryz.func172.trans (congrArg some (by kernel_rfl))
 f152:=Tryz.func213.trans (congrArg some (by kernel_rfl))
 f161:=Tryz.func163.trans (congrArg some (by kernel_rfl))
 f197:=Tryz.func189.trans (congrArg some (by kernel_rfl))
 f217:=Tryz.func190.trans (congrArg some (by kernel_rfl))
 f224:=Tryz.func192.trans (congrArg some (by kernel_rfl))
 f225:=Tryz.func191.trans (congrArg some (by kernel_rfl))
 f227:=Tryz.func208.trans (congrArg some (by kernel_rfl))
 f228:=Tryz.func238.trans (congrArg some (by kernel_rfl))
 f231:=Tryz.func207.trans (congrArg some (by kernel_rfl))
 f233:=Tryz.func209.trans (congrArg some (by kernel_rfl))
 f235:=Tryz.func210.trans (congrArg some (by kernel_rfl))
 f260:=Tryz.func229.trans (congrArg some (by kernel_rfl))
 f266:=Tryz.func230.trans (congrArg some (by kernel_rfl))
 t0:=Tryz.underlying0
 a0:=Tryz.isAgg0
 z0:=Tryz.sizeOf0
 v0:=Tryz.zeroValue0
 t3:=Tryz.underlying3
 a3:=Tryz.isAgg3
 z3:=Tryz.sizeOf3
 v3:=Tryz.zeroValue3
 t4:=Tryz.underlying4
 a4:=Tryz.isAgg4
 z4:=Tryz.sizeOf4
 v4:=Tryz.zeroValue4
 t5:=Tryz.underlying5
 a5:=Tryz.isAgg5
 z5:=Tryz.sizeOf5
 v5:=Tryz.zeroValue5
 t9:=Tryz.underlying9
 a9:=Tryz.isAgg9
 z9:=Tryz.sizeOf9
 v9:=Tryz.zeroValue9
 t21:=Tryz.underlying21
 a21:=Tryz.isAgg21
 z21:=Tryz.sizeOf21
 v21:=Tryz.zeroValue21
 t46:=Tryz.underlying170
 a46:=Tryz.isAgg170
 z46:=Tryz.sizeOf170
 v46:=Tryz.zeroValue170
 t105:=Tryz.underlying276
 a105:=Tryz.isAgg276
 z105:=Tryz.sizeOf276
 v105:=Tryz.zeroValue276
 t116:=Tryz.underlying292
 a116:=Tryz.isAgg292
 z116:=Tryz.sizeOf292
 t117:=Tryz.underlying293
 a117:=Tryz.isAgg293
 z117:=Tryz.sizeOf293
 v117:=Tryz.zeroValue293
 t119:=Tryz.underlying314
 a119:=Tryz.isAgg314
 z119:=Tryz.sizeOf314
 t124:=Tryz.underlying296
 a124:=Tryz.isAgg296
 z124:=Tryz.sizeOf296
 v124:=Tryz.zeroValue296
 t138:=Tryz.underlying316
 a138:=Tryz.isAgg316
 z138:=Tryz.sizeOf316
 v138:=Tryz.zeroValue316
 t139:=Tryz.underlying317
 a139:=Tryz.isAgg317
 z139:=Tryz.sizeOf317
 v139:=Tryz.zeroValue317
 g3:=by kernel_rfl
 g4:=by kernel_rfl}
def Tryz.lays105_ren:Go.Shelf.Ren:=⟨fun|105=>36|212=>86|99=>43|165=>88|166=>78|170=>89|169=>80|263=>144|264=>145|206=>91|240=>135|241=>146|276=>178|277=>188|n=>n,fun|9=>9|3=>3|4=>4|20=>20|0=>0|46=>170|109=>171|5=>5|72=>159|76=>162|51=>101|146=>233|53=>183|148=>184|70=>157|37=>23|75=>161|127=>225|164=>266|80=>43|n=>n,fun|n=>n⟩
theorem Tryz.lays105:Go.Proofs.Lays.n105 Tryz.prog Tryz.lays105_ren:={
 mixed:=by kernel_rfl
 f99:=Tryz.func43.trans (congrArg some (by kernel_rfl))
 f105:=Tryz.func36.trans (congrArg some (by kernel_rfl))
 f165:=Tryz.func88.trans (congrArg some (by kernel_rfl))
 f166:=Tryz.func78.trans (congrArg some (by kernel_rfl))
 f169:=Tryz.func80.trans (congrArg some (by kernel_rfl))
 f170:=Tryz.func89.trans (congrArg some (by kernel_rfl))
 f206:=Tryz.func91.trans (congrArg some (by kernel_rfl))
 f212:=Tryz.func86.trans (congrArg some (by kernel_rfl))
 f240:=Tryz.func135.trans (congrArg some (by kernel_rfl))
 f241:=Tryz.func146.trans (congrArg some (by kernel_rfl))
 f263:=Tryz.func144.trans (congrArg some (by kernel_rfl))
 f264:=Tryz.func145.trans (congrArg some (by kernel_rfl))
 f276:=Tryz.func178.trans (congrArg some (by kernel_rfl))
 f277:=Tryz.func188.trans (congrArg some (by kernel_rfl))
 t0:=Tryz.underlying0
 a0:=Tryz.isAgg0
 z0:=Tryz.sizeOf0
 v0:=Tryz.zeroValue0
 t3:=Tryz.underlying3
 a3:=Tryz.isAgg3
 z3:=Tryz.sizeOf3
 v3:=Tryz.zeroValue3
 t4:=Tryz.underlying4
 a4:=Tryz.isAgg4
 z4:=Tryz.sizeOf4
 v4:=Tryz.zeroValue4
 t5:=Tryz.underlying5
 a5:=Tryz.isAgg5
 z5:=Tryz.sizeOf5
 v5:=Tryz.zeroValue5
 t9:=Tryz.underlying9
 a9:=Tryz.isAgg9
 z9:=Tryz.sizeOf9
 v9:=Tryz.zeroValue9
 t20:=Tryz.underlying20
 a20:=Tryz.isAgg20
 z20:=Tryz.sizeOf20
 v20:=Tryz.zeroValue20
 t37:=Tryz.underlying23
 a37:=Tryz.isAgg23
 z37:=Tryz.sizeOf23
 v37:=Tryz.zeroValue23
 t46:=Tryz.underlying170
 a46:=Tryz.isAgg170
 z46:=Tryz.sizeOf170
 v46:=Tryz.zeroValue170
 t51:=Tryz.underlying101
 a51:=Tryz.isAgg101
 z51:=Tryz.sizeOf101
 v51:=Tryz.zeroValue101
 t53:=Tryz.underlying183
 a53:=Tryz.isAgg183
 z53:=Tryz.sizeOf183
 v53:=Tryz.zeroValue183
 t70:=Tryz.underlying157
 a70:=Tryz.isAgg157
 z70:=Tryz.sizeOf157
 v70:=Tryz.zeroValue157
 t72:=Tryz.underlying159
 a72:=Tryz.isAgg159
 z72:=Tryz.sizeOf159
 v72:=Tryz.zeroValue159
 t75:=Tryz.underlying161
 a75:=Tryz.isAgg161
 z75:=Tryz.sizeOf161
 v75:=Tryz.zeroValue161
 t76:=Tryz.underlying162
 a76:=Tryz.isAgg162
 z76:=Tryz.sizeOf162
 v76:=Tryz.zeroValue162
 t109:=Tryz.underlying171
 a109:=Tryz.isAgg171
 z109:=Tryz.sizeOf171
 v109:=Tryz.zeroValue171
 t127:=Tryz.underlying225
 a127:=Tryz.isAgg225
 z127:=Tryz.sizeOf225
 v127:=Tryz.zeroValue225
 t146:=Tryz.underlying233
 a146:=Tryz.isAgg233
 z146:=Tryz.sizeOf233
 v146:=Tryz.zeroValue233
 t148:=Tryz.underlying184
 a148:=Tryz.isAgg184
 z148:=Tryz.sizeOf184
 v148:=Tryz.zeroValue184
 t164:=Tryz.underlying266
 a164:=Tryz.isAgg266
 z164:=Tryz.sizeOf266
 v164:=Tryz.zeroValue266}
def Tryz.lays156_ren:Go.Shelf.Ren:=⟨fun|156=>38|165=>88|166=>78|169=>80|240=>135|241=>146|276=>178|277=>188|n=>n,fun|31=>89|9=>9|3=>3|4=>4|0=>0|20=>20|72=>159|76=>162|70=>157|37=>23|75=>161|127=>225|164=>266|5=>5|80=>43|n=>n,fun|n=>n⟩
theorem Tryz.lays156:Go.Proofs.Lays.n156 Tryz.prog Tryz.lays156_ren:={
 mixed:=by kernel_rfl
 f156:=Tryz.func38.trans (congrArg some (by kernel_rfl))
 f165:=Tryz.func88.trans (congrArg some (by kernel_rfl))
 f166:=Tryz.func78.trans (congrArg some (by kernel_rfl))
 f169:=Tryz.func80.trans (congrArg some (by kernel_rfl))
 f240:=Tryz.func135.trans (congrArg some (by kernel_rfl))
 f241:=Tryz.func146.trans (congrArg some (by kernel_rfl))
 f276:=Tryz.func178.trans (congrArg some (by kernel_rfl))
 f277:=Tryz.func188.trans (congrArg some (by kernel_rfl))
 t0:=Tryz.underlying0
 a0:=Tryz.isAgg0
 z0:=Tryz.sizeOf0
 v0:=Tryz.zeroValue0
 t3:=Tryz.underlying3
 a3:=Tryz.isAgg3
 z3:=Tryz.sizeOf3
 v3:=Tryz.zeroValue3
 t4:=Tryz.underlying4
 a4:=Tryz.isAgg4
 z4:=Tryz.sizeOf4
 v4:=Tryz.zeroValue4
 t9:=Tryz.underlying9
 a9:=Tryz.isAgg9
 z9:=Tryz.sizeOf9
 v9:=Tryz.zeroValue9
 t20:=Tryz.underlying20
 a20:=Tryz.isAgg20
 z20:=Tryz.sizeOf20
 v20:=Tryz.zeroValue20
 t31:=Tryz.underlying89
 a31:=Tryz.isAgg89
 z31:=Tryz.sizeOf89
 v31:=Tryz.zeroValue89
 t37:=Tryz.underlying23
 a37:=Tryz.isAgg23
 z37:=Tryz.sizeOf23
 v37:=Tryz.zeroValue23
 t70:=Tryz.underlying157
 a70:=Tryz.isAgg157
 z70:=Tryz.sizeOf157
 v70:=Tryz.zeroValue157
 t72:=Tryz.underlying159
 a72:=Tryz.isAgg159
 z72:=Tryz.sizeOf159
 v72:=Tryz.zeroValue159
 t75:=Tryz.underlying161
 a75:=Tryz.isAgg161
 z75:=Tryz.sizeOf161
 v75:=Tryz.zeroValue161
 t76:=Tryz.underlying162
 a76:=Tryz.isAgg162
 z76:=Tryz.sizeOf162
 v76:=Tryz.zeroValue162
 t127:=Tryz.underlying225
 a127:=Tryz.isAgg225
 z127:=Tryz.sizeOf225
 v127:=Tryz.zeroValue225
 t164:=Tryz.underlying266
 a164:=Tryz.isAgg266
 z164:=Tryz.sizeOf266
 v164:=Tryz.zeroValue266}
theorem Tryz.Builder_Extra_105:Builder.Extra Tryz.prog Tryz.lays105_ren:={
 sizeBuilder:=by kernel_rfl
 liesBuilder:=by kernel_rfl
 t5:=Tryz.underlying5
 a5:=Tryz.isAgg5
 z5:=Tryz.sizeOf5
 v5:=Tryz.zeroValue5
 infoByte:=by kernel_rfl
 cellsByte:=by kernel_rfl
 sizeByte:=by kernel_rfl
 neB5:=by decide}
theorem Tryz.Builder_Extra_156:Builder.Extra Tryz.prog Tryz.lays156_ren:={
 sizeBuilder:=by kernel_rfl
 liesBuilder:=by kernel_rfl
 t5:=Tryz.underlying5
 a5:=Tryz.isAgg5
 z5:=Tryz.sizeOf5
 v5:=Tryz.zeroValue5
 infoByte:=by kernel_rfl
 cellsByte:=by kernel_rfl
 sizeByte:=by kernel_rfl
 neB5:=by decide}
end Go.Proofs
end
section
namespace Go.Proofs.YtjfipepaaddlmaaGreatDoor.A
open Go Go.RowKit
def copyP (T:Nat):Qdq:=λ_ args S K=>match args with
 |
  [.ptr id 0]=>match S.getD id .dead with
  |
   .cells t (p::r)=>if t=T/\r.length=1 then (match p with
   |.nilp=>K (.tup []) (S.set id (.cells t (.ptr id 0::r)))
   |.ptr id' 0=>if id'=id then K (.tup []) S else none
   |_=>none) else none
  |_=>none
 |_=>none
theorem Qrp {P:Program} {g:Nat} {T:Nat} (hE:∀args w,(callFunc g args).run P w=.ok (.enter g args) w)
  (hF:∀(b:Nat) (w:World),w.cell? ⟨b,0,none⟩=some (.pointer none)->w.shape? b=some (T,2)->w.frozen? ⟨b,0,none⟩=false ->
   Calls P g #[.pointer (some ⟨b,0,none⟩)] w λe w'=>e=.returned (.tuple #[])/\w'=w.setCell ⟨b,0,none⟩ (.pointer (some ⟨b,0,none⟩)))
  (hU:∀(b:Nat) (w:World),w.cell? ⟨b,0,none⟩=some (.pointer (some ⟨b,0,none⟩)) ->
   Calls P g #[.pointer (some ⟨b,0,none⟩)] w λe w'=>e=.returned (.tuple #[])/\w'=w):SoundP P g (copyP T):=by
 refine ⟨λR args S K=>?_,λargs S v S' M cargs h hN hsz hr=>?_⟩
 ·unfold copyP
  repeat' split
  all_goals rfl
 simp only [copyP,K0] at h
 split at h
 case h_2=>simp at h
 rename_i bid
 split at h
 case h_2=>simp at h
 rename_i t p r hk
 split at h
 case isFalse=>simp at h
 rename_i hc
 obtain ⟨rfl,hrl⟩:=hc
 obtain ⟨cx,rfl⟩:∃cx,cargs = #[cx]:=⟨cargs.getD 0 Go.undef,by
  apply Array.ext
  ·simpa using hsz
  ·intro i hi hi'
   have:i=0:=by simp at hi';exact hi'
   subst this;simp [Z0,hi]⟩
 have hx:Rep M cx (.ptr bid 0):=by simpa using hr 0 (by simp)
 have hk':M.S bid=.cells t (p::r):=(hN.is bid).trans hk
 have hR:=Ww hx
 obtain ⟨_,_,hp⟩:=hR
 obtain ⟨b,o,cap,hμ,rfl⟩:=hp (by rw [hk'];rfl)
 have hB:=hN.ok.blk bid _ hμ
 rw [hk'] at hB
 obtain ⟨_,_,_,he,hO,hlt,⟨ho,hsh⟩,hcell⟩:=hB
 cases he
 subst ho
 simp only [Z8,hrl] at hsh
 obtain ⟨cv,hcv,_,hrp,hfz⟩:=hcell 0 (by simp)
 simp only [Z41,Z80] at hcv hrp hfz
 have hend:∀{R:Value->World->Prop},(Calls P g #[.pointer (some ⟨b,0,none⟩)] M.w fun | .returned cv,w''=>R cv w''|_,_=>False)->CallR P g #[.pointer (some ⟨b,0,none⟩)] M.w R:=λ{R} h=>by
  unfold CallR;rw [hE];exact h
 show CallR P g #[.pointer (some ⟨b,0+0,none⟩)] M.w _
 refine hend ?_
 split at h
 ·simp only [Zs,Z3] at h
  obtain ⟨rfl,rfl⟩:=h
  obtain rfl:=Qbh hrp
  refine (hF b M.w hcv hsh hfz).mono λe w' he=>?_
  obtain ⟨rfl,rfl⟩:=he
  obtain ⟨_,hW,hB'⟩:=Qkq hN.ok hk' hμ (off:=0) hx rfl (by simp [cellsOf])
  have hpw:=post_write hN.ok hW hB' (Wm hk (by simp))
  exact ⟨_,rfl,hpw.step,hpw.now hN,.imm (.tup #[] [] rfl (λj hj=>by simp at hj)),hpw.len⟩
 ·rename_i id'
  split at h
  case isFalse=>simp at h
  rename_i hid
  subst hid
  simp only [Zs,Z3] at h
  obtain ⟨rfl,rfl⟩:=h
  obtain ⟨_,_,hp2⟩:=Ww hrp
  obtain ⟨b2,o2,cap2,hμ2,rfl⟩:=hp2 (by rw [hk'];rfl)
  rw [hμ] at hμ2
  cases hμ2
  refine (hU b M.w hcv).mono λe w' he=>?_
  obtain ⟨rfl,rfl⟩:=he
  exact ⟨M,rfl,.refl M,hN,.imm (.tup #[] [] rfl (λj hj=>by simp at hj)),Z5 _⟩
 ·simp at h
theorem Qnd:Tryz.f135.ntmps=20:=by kernel_rfl
set_option maxHeartbeats 1000000 in
set_option maxRecDepth 100000 in
theorem Quu (b:Nat) (w:World) (h0:w.cell? ⟨b,0,none⟩=some (.pointer (some ⟨b,0,none⟩))) :
  Calls Tryz.prog 135 #[.pointer (some ⟨b,0,none⟩)] w λe w'=>e=.returned (.tuple #[])/\w'=w:=by
 have hz:(Tryz.prog.info? 159).map (·.size)=some 2:=by kernel_rfl
 obtain ⟨j,hj,_⟩:=Z20.1 hz
 have mixed:Tryz.prog.follows .mixedOrders=true:=by kernel_rfl
 have t72:=Tryz.underlying159;have a72:=Tryz.isAgg159;have z72:=Tryz.sizeOf159;have v72:=Tryz.zeroValue159;have u72:=run_underlying Tryz.underlying159
 have t70:=Tryz.underlying157;have a70:=Tryz.isAgg157;have z70:=Tryz.sizeOf157;have v70:=Tryz.zeroValue157;have u70:=run_underlying Tryz.underlying157
 have t4:=Tryz.underlying4;have a4:=Tryz.isAgg4;have z4:=Tryz.sizeOf4;have v4:=Tryz.zeroValue4;have u4:=run_underlying Tryz.underlying4
 have t164:=Tryz.underlying266;have a164:=Tryz.isAgg266;have z164:=Tryz.sizeOf266;have v164:=Tryz.zeroValue266;have u164:=run_underlying Tryz.underlying266
 go_enter Tryz.func135,Qnd
 go_wp2
 rw [Lib.run_neq_ptr_same w _ Tryz.underlying157 hj]
 go_wp2
 go_end0
 exact ⟨rfl,rfl⟩
set_option maxHeartbeats 1000000 in
set_option maxRecDepth 100000 in
theorem Qvu (b:Nat) (w:World) (h0:w.cell? ⟨b,0,none⟩=some (.pointer none)) (hsh:w.shape? b=some (159,2)) (hfz:w.frozen? ⟨b,0,none⟩=false) :
  Calls Tryz.prog 135 #[.pointer (some ⟨b,0,none⟩)] w λe w'=>e=.returned (.tuple #[])/\w'=w.setCell ⟨b,0,none⟩ (.pointer (some ⟨b,0,none⟩)):=by
 have hz:(Tryz.prog.info? 159).map (·.size)=some 2:=by kernel_rfl
 have hl:liesAt Tryz.prog Tryz.prog.depth 159 (2/Tryz.prog.cellsOf 159) 0 159 1=true:=by kernel_rfl
 obtain ⟨j,hj,hjs⟩:=Z20.1 hz
 have mixed:Tryz.prog.follows .mixedOrders=true:=by kernel_rfl
 have t72:=Tryz.underlying159;have a72:=Tryz.isAgg159;have z72:=Tryz.sizeOf159;have v72:=Tryz.zeroValue159;have u72:=run_underlying Tryz.underlying159
 have t70:=Tryz.underlying157;have a70:=Tryz.isAgg157;have z70:=Tryz.sizeOf157;have v70:=Tryz.zeroValue157;have u70:=run_underlying Tryz.underlying157
 have t4:=Tryz.underlying4;have a4:=Tryz.isAgg4;have z4:=Tryz.sizeOf4;have v4:=Tryz.zeroValue4;have u4:=run_underlying Tryz.underlying4
 have t164:=Tryz.underlying266;have a164:=Tryz.isAgg266;have z164:=Tryz.sizeOf266;have v164:=Tryz.zeroValue266;have u164:=run_underlying Tryz.underlying266
 go_enter Tryz.func135,Qnd
 go_wp2
 rw [Lib.run_to_unsafe w ⟨b,0,none⟩ Tryz.underlying157 Tryz.underlying266 hj (by rw [hjs];decide) hsh (Nat.zero_lt_succ 1)]
 simp only [Result.andThen]
 rw [Oper.upon_value]
 go_wp2
 rw [run_callFunc_extern Tryz.func178 (by kernel_rfl) (by kernel_rfl) (by kernel_rfl) (e:=Extern.AbiNoEscape.same) (by kernel_rfl)]
 rw [Lib.run_noEscape]
 simp only [Result.andThen]
 rw [Oper.upon_value]
 go_wp2
 rw [Lib.run_from_unsafe w ⟨b,0,none⟩ Tryz.underlying266 Tryz.underlying157 hj hsh hl]
 simp only [Result.andThen]
 rw [Oper.upon_value]
 go_wp2
 go_end0
 exact ⟨rfl,rfl⟩
end Go.Proofs.YtjfipepaaddlmaaGreatDoor.A
end
