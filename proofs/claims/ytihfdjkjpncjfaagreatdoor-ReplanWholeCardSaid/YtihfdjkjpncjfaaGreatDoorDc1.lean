/- Part 1 of the proof of ReplanWhole.card. -/
import Derived.Test.YtihfdjkjpncjfaaGreatDoorDc0
import Derived.Lib.ConvBytes
import Derived.Lib.UnsafeStr
import Derived.LoopN
set_option linter.unusedVariables false
set_option linter.unusedSimpArgs false
section
namespace Go.Proofs.YtihfdjkjpncjfaaGreatDoor.A
open Go Go.RowKit
variable {R:Type}
section
variable {P:Program} {C:Ctx} (hT:C.T.check P=true) {M:Mem}
theorem Qk2 {S:Store} {x:V} {n:Nat} (hM:M.ok) (hS:∀id∈refs1 x,M.S id=S.getD id .dead) (h:lenOf S x=some n) {cx:Value} (hx:Rep M cx x):∃A cap,cx=.slice A n cap:=by
 have plain:contentVal x=true->lenV x=some n->∃A cap,cx=.slice A n cap:=λhc hl=>by
  obtain ⟨A,n',cap,fl,cf,rfl,hf,_⟩:=Wx hc hx
  have:=(Qj hf).2
  rw [hl] at this;simp only [Zs] at this;subst this
  exact ⟨A,cap,rfl⟩
 cases x<;>simp only [lenOf] at h<;>try (first|exact plain rfl h|(simp [lenV] at h;done))
 ·rename_i id ver
  split at h
  case h_2=>simp at h
  rename_i c hc
  obtain ⟨_,_,hp⟩:=W0 hx
  obtain ⟨loc,n',hloc,hn',rfl⟩:=hp c (by rw [hS id (by simp [refs1])];exact hc)
  rw [h] at hn';simp only [Zs] at hn';subst hn'
  cases loc with
  |
   nil a=>
   obtain ⟨m,fl,hf,hcell⟩:=Qaq hM (c:=c) (by rw [hS id (by simp [refs1])];exact hc) hloc
   have hl:=Qj hf
   rw [h] at hl;obtain ⟨hl1,hl2⟩:=hl;simp only [Zs] at hl2;subst hl2
   have hz0:0<zOf c:=by cases c<;>simp [zOf]<;>simp [flatV] at hf;exact hf.1.1
   have:n=0:=by
    rcases Z12 n with h|h
    ·exact h
    ·obtain ⟨b,o,cap,cv,he,_⟩:=hcell 0 (by rw [hl1];exact Z49 h hz0)
     simp at he
   subst this
   exact ⟨a,0,rfl⟩
  |blk b o cap=>exact ⟨_,cap,rfl⟩
 ·rename_i id ver lo k
  split at h
  case h_2=>simp at h
  rename_i c hc
  have h:k=n:=by simpa using h
  subst h
  obtain ⟨_,_,hp⟩:=W7 hx
  obtain ⟨loc,m,a,cap',_,_,_,_,rfl,_⟩:=hp c (by rw [hS id (by simp [refs1])];exact hc)
  exact ⟨a,cap',rfl⟩
theorem Qt4 (hT:C.T.check P=true) {src dst e:Nat} (hs:(C.ty src).d=.slice e) (he:(C.ty e).d=.int .u8) (hd:(C.ty dst).d=.str) {cx:Value} {y:Bool} {l:J0} (h:Cont M 1 cx (.ints y .u8 l)) :
  ∃s:ByteArray,(convert src dst cx).run P M.w=.ok (.string s) M.w/\s.data.toList=l.map λn=>UInt8.ofNat n.toNat:=by
 obtain ⟨A,n,cap,fl,cf,rfl,hf,hz,hle,hm,hc,ho,hr⟩:=h
 simp only [flatV,Zs,Z2] at hf;obtain ⟨rfl,rfl⟩:=hf
 have h1:=(Q9 hT hs).1;have h2:=Qbc hT he;have h3:=Yq hT hd
 rw [run_convert_bytes_string M.w src dst e _ _ _ h1 h2 h3]
 cases A with
 |
  none=>
  have:l=[]:=Z6 (by have:=hm rfl;omega)
  subst this
  exact ⟨_,by simp [Conv.bytesToString];rfl,rfl⟩
 |
  some a=>
  have hl:(loadCells a l.length).run P M.w=.ok (l.map (Value.int .u8)).toArray M.w:=by
   have:=run_loadCells_list (P:=P) M.w a (l.map (Value.int .u8)) (λj v hj=>by
    have hjl:j<l.length:=by
     rcases Z39 j l.length with h|h
     ·exact h
     ·simp [Z17 (show (l.map (Value.int .u8)).length<=j by simpa using h)] at hj
    obtain ⟨a',he',hcell⟩:=hc j (by simpa using hjl)
    simp only [Zs] at he';subst he'
    rw [hcell]
    have h5:Rep0 M.O M.w (cf j) (.int .u8 l[j]):=by
     have h6:=hr j (by simpa using hjl)
     rw [Z20] at h6;exact h6
    rw [Qp (M:=M) (.imm h5)]
    simpa [Z1 hjl] using hj)
   simpa using this
  refine ⟨strOfNums l,?_,strOfNums_data l⟩
  rw [run_bytesToString M.w _ _ cap l hl,foldl_push_bytes]
  simp [strOfNums,ByteArray.empty,ByteArray.emptyWithCapacity]
  rfl
theorem Qy6 (hT:C.T.check P=true) {src dst:Nat} {k k':IntKind} {n:Int} (hs:(C.ty src).d=.int k') (hd:(C.ty dst).d=.int k) {kx:IntKind} :
  (convert src dst (.int kx n)).run P M.w=.ok (.int k (k.wrap n)) M.w:=by
 have h1:=Qbc hT hs;have h2:=Qbc hT hd
 simp [convert,run_underlying h1,run_underlying h2,Conv.intToInt]
theorem Qvt (hT:C.T.check P=true) {src dst:Nat} (hs:(C.ty src).d=.str) (hd:(C.ty dst).d=.str) {s:ByteArray}:(convert src dst (.string s)).run P M.w=.ok (.string s) M.w:=by
 have h1:=Yq hT hs;have h2:=Yq hT hd
 simp [convert,run_underlying h1,run_underlying h2]
theorem Qyj (hT:C.T.check P=true) {src dst:Nat} {k':IntKind} {n:Int} (hs:(C.ty src).d=.int k') (hd:(C.ty dst).d=.str) {kx:IntKind} :
  (convert src dst (.int kx n)).run P M.w=.ok (.string (Utf8.encode n)) M.w:=by
 have h1:=Qbc hT hs;have h2:=Yq hT hd
 simp [convert,run_underlying h1,run_underlying h2,Conv.intToString]
theorem Qtl (hT:C.T.check P=true) (hM:M.ok) {q:Nat} (hq:M.μ q=none) {src dst e:Nat} (hs:(C.ty src).d=.str) (hd:(C.ty dst).d=.slice e) (he:(C.ty e).d=.int .u8) {s:ByteArray} (hl:s.size<=140737488355328) :
  ∃
   cap w',(convert src dst (.string s)).run P M.w=.ok (Q0 (.blk M.w.heap.size 0 cap) s.size) w'/\M.w.grownBy w' none/\M.w.heap.size<w'.heap.size /\
   BlkOK (M.push q (.arr 0 false e (.ints true .u8 (s.data.toList.map λc=>(c.toNat:Int)))) (.blk M.w.heap.size 0 cap) w') (.blk M.w.heap.size 0 cap) (.arr 0 false e (.ints true .u8 (s.data.toList.map λc=>(c.toNat:Int)))):=by
 have h1:=Yq hT hs;have h2:=(Q9 hT hd).1;have h3:=Qbc hT he
 have hz:s.size=s.data.toList.length:=by rw [Z31];rfl
 have hge:=grownCap_ge M.w s.size 0 e
 have hbs:(Lib.bytesCells M.w e s).size=grownCap M.w s.size 0 e:=by
  have:s.data.size=s.size:=rfl
  simp only [Lib.bytesCells,Array.size_append,Array.size_map,Array.size_replicate,this];omega
 have hnew:=Lib.bytesWorld_at_new M.w e s
 have hg:M.w.grownBy (Lib.bytesWorld M.w e s) none:=⟨rfl,rfl,rfl,by rw [Lib.bytesWorld_size];omega,λk hk _=>Lib.bytesWorld_at_old M.w e s k hk⟩
 refine ⟨grownCap M.w s.size 0 e,Lib.bytesWorld M.w e s,Lib.run_convert_string_bytes M.w src dst e s h1 h2 h3,hg,by rw [Lib.bytesWorld_size];omega,λ_ _ _ he=>by cases he;exact ⟨.inr ⟨0,_,rfl⟩,by simp only [Mem.push];rw [Lib.bytesWorld_size];omega⟩,s.size,_,Lib.bytesCells M.w e s,_,by simp only [flatV,Z13,hz];rfl,rfl,hge,grownCap_le_maxLen _ _ _ _ (by unfold maxLen;omega),hnew,by simp only [zOf,hbs];omega,λh=>by simp at h,λ_ h=>by simp [isExact] at h,λj hj=>?_,λj hj=>?_⟩
 ·have hj':j<s.size:=by rw [hz];simpa using hj
  show (Lib.bytesWorld M.w e s).frozen? ⟨M.w.heap.size,j,none⟩=false
  have:¬(Lib.bytesCells M.w e s).size<=j:=by omega
  simp [World.frozen?,hnew,this]
 ·have hj':j<s.data.size:=by
                   have h:j<s.data.toList.length:=by simpa using hj
                   simpa using h
  have e1:(Lib.bytesCells M.w e s).getD j Go.undef=.int .u8 ((s.data[j]'hj').toNat:Int):=by
   rw [Z0,Lib.bytesCells,Z51 (by simpa using hj'),Array.getElem?_map,Z29 hj']
   rfl
  rw [e1]
  simp only [Z20,Array.getElem_toList]
  exact ⟨.int _ _,rfl⟩
theorem Qvk (hT:C.T.check P=true) (hM:M.ok) {src e e0 id ver e':Nat} {l:J0} (hs:(C.ty src).d=.slice e0) (hd:(C.ty src).d=.slice e) (he:(C.ty e).d=.int .u8) (hk:M.S id=.arr ver false e' (.ints false .u8 l)) {cx:Value} (hx:Rep M cx (.sref id ver)) :
  ∃cv loc w',(convert src src cx).run P M.w=.ok cv w'/\Rep (M.push id (.arr ver false e' (.ints true .u8 l)) loc w') cv (.sref id ver)/\Wq M id loc loc (.arr ver false e' (.ints true .u8 l)) w'/\BlkOK (M.push id (.arr ver false e' (.ints true .u8 l)) loc w') loc (.arr ver false e' (.ints true .u8 l)):=by
 have h2:=(Q9 hT hd).1;have h3:=Qbc hT he
 obtain ⟨_,_,hp⟩:=W0 hx
 have hcc:contentB (M.S id) ver=some (.ints false .u8 l):=by rw [hk];simp [contentB]
 obtain ⟨loc,n0,hμ,hn0,rfl⟩:=hp _ hcc
 have hB:=hM.blk id _ hμ
 rw [hk] at hB
 obtain ⟨hB0,hB⟩:=hB
 cases loc with
 |nil a=>simp [Qc6] at hB
 |
  blk b o cap=>
  obtain ⟨n,fl,cur,fz,hf,rfl,a3,a4,a5,a6,a7,a8,a9,a10⟩:=hB
  obtain ⟨rfl,rfl⟩:=a8 rfl rfl
  simp only [flatV,Zs,Z2] at hf
  obtain ⟨rfl,rfl⟩:=hf
  simp only [zOf,Z120] at a6
  have hg:M.w.grownBy (M.w.freeze ⟨b,cur.size,none⟩ 1) (some b):=⟨rfl,rfl,rfl,by simp [World.freeze],λk hk hne=>by
   simp only [World.freeze,Nat.one_ne_zero,if_false,Z97]
   rw [if_neg (λe=>hne (by rw [e]))]⟩
  have hnew:(M.w.freeze ⟨b,cur.size,none⟩ 1).heap[b]? = some (.cells cur e' (cur.size,cur.size+1)):=by
   simp [World.freeze,Z97,a5]
  have hW:Wq M id (.blk b 0 l.length) (.blk b 0 l.length) (.arr ver false e' (.ints true .u8 l)) (M.w.freeze ⟨b,cur.size,none⟩ 1):=
   {
    μ:=hμ,own:=by rw [hk];rfl,w:=hg,dst:=λb' o' cap' e=>by cases e;exact ⟨Z16 (hB0 _ _ _ rfl).2 hg.size,.inr ⟨_,_,rfl⟩⟩,
    fix:=λ_=>⟨rfl,by rw [hk];rfl⟩,refs:=λver' c' _ hc=>by
     simp only [contentB] at hc
     split at hc
     ·rename_i e;subst e
      simp only [Zs] at hc;subst hc
      exact ⟨rfl,_,hcc,rfl,rfl⟩
     ·simp at hc
    ver:=λver' h v hv=>by rw [hk] at h;exact h v hv}
  have hst:=write_step hM hW
  have hsh:M.w.shape? b=some (e',cur.size):=by simp [World.shape?,a5]
  refine ⟨_,_,M.w.freeze ⟨b,cur.size,none⟩ 1,?_,Yl (c:=.ints true .u8 l) (loc:=.blk b 0 l.length) (n:=n0) (by simpa [lenV] using hn0),hW,λ_ _ _ he=>by cases he;exact ⟨.inr ⟨0,_,rfl⟩,Z16 (hB0 _ _ _ rfl).2 hg.size⟩,l.length,_,cur,_,rfl,rfl,Z4 _,a4,hnew,by simpa [zOf] using a6,λh=>by simp at h,λ_ h=>by simp [isExact] at h,λj hj=>?_,λj hj=>⟨hst.rep0 hM (a10 j hj).1,(a10 j hj).2⟩⟩
  ·simp [convert,run_underlying h2,run_underlying h3,Q0,markStringish,hsh]
  ·show (M.w.freeze ⟨b,cur.size,none⟩ 1).frozen? ⟨b,j,none⟩=false
   have:¬cur.size<=j:=by simp at hj;omega
   simp [World.frozen?,hnew,this]
theorem Qzo (hT:C.T.check P=true) (hM:M.ok) {S:Store} (hq:M.μ S.length=none) {t:Nat} (ht:(C.ty t).d=.str) {s:ByteArray} :
  ∃M',(Instr.range t (.string s)).run P M.w=.ok (.pointer (some ⟨M.w.heap.size,0,none⟩)) M'.w/\Rep M' (.pointer (some ⟨M.w.heap.size,0,none⟩)) (.ptr S.length 0)/\Post M M' S (S++[.siter s.data.toList 0]) [S.length]:=by
 have hu:=Yq hT ht
 have hdst:∀b o cap,Loc.blk M.w.heap.size 0 0=.blk b o cap->M.w.heap.size<=b/\b<(M.w.alloc (.stringIter s 0)).heap.size:=λb o cap he=>by cases he;simp
 refine ⟨M.push S.length (.siter s.data.toList 0) (.blk M.w.heap.size 0 0) (M.w.alloc (.stringIter s 0)),?_,Qjj,post_push hM hq (Qcu _ _) hdst ⟨_,0,rfl,.inr ⟨0,0,rfl⟩,?_⟩⟩
 ·simp [Instr.range,run_underlying hu,Mem.push]
 ·simp only [Mem.push,World.alloc,Z32,if_true]
theorem Qr4 (hM:M.ok) {S:Store} {id:Nat} {s:J1} {pos:Nat} (hS:M.S id=S.getD id .dead) (hk:S.getD id .dead=.siter s pos) {cx:Value} (hx:Rep M cx (.ptr id 0)) {ty:Nat} :
  if pos<s.length then ∃cv M',(Instr.next cx true ty).run P M.w=.ok cv M'.w/\Rep M' cv (.tup [.bool true,.int .i64 pos,.int .i32 (Utf8.decode ⟨s.toArray⟩ pos).1])/\Post M M' S (S.set id (.siter s (pos+(Utf8.decode ⟨s.toArray⟩ pos).2))) [id]
  else ∃cv,(Instr.next cx true ty).run P M.w=.ok cv M.w/\Rep M cv (.tup [.bool false]):=by
 have hk':=hS.trans hk
 obtain ⟨_,_,hp⟩:=Ya hx
 obtain ⟨b,o,cap,hμ,rfl⟩:=hp (by rw [hk'];rfl)
 have hB:=hM.blk id _ hμ
 rw [hk'] at hB
 obtain ⟨b',cap',he,hO,hh⟩:=hB
 cases he
 split
 ·rename_i hlt
  have hlt':pos<(⟨s.toArray⟩:ByteArray).size:=by simpa [ByteArray.size] using hlt
  have hrun:=Go.Lib.run_next_any_at (P:=P) M.w b ⟨s.toArray⟩ pos ty hh hlt'
  have hblt:b<M.w.heap.size:=hM.low b hO
  have hg:M.w.grownBy (M.w.iterAt b ⟨s.toArray⟩ (pos+(Utf8.decode ⟨s.toArray⟩ pos).2)) (some b):=
   ⟨rfl,rfl,rfl,by simp [World.iterAt],λk hk hne=>by simp only [World.iterAt];rw [Z92 (λe=>hne (by rw [e]))]⟩
  have hW:Wq M id (.blk b 0 cap) (.blk b 0 cap) (.siter s (pos+(Utf8.decode ⟨s.toArray⟩ pos).2)) (M.w.iterAt b ⟨s.toArray⟩ (pos+(Utf8.decode ⟨s.toArray⟩ pos).2)):=
   {
    μ:=hμ,own:=by rw [hk'];rfl,w:=hg,dst:=λb' o' cap' e=>by cases e;exact ⟨by simpa [World.iterAt] using hblt,.inr ⟨0,cap,rfl⟩⟩,
    fix:=λ_=>⟨rfl,by rw [hk'];rfl⟩,refs:=λver c' _ hc=>by simp [contentB] at hc,ver:=λver _ v hv=>by simp [verB] at hv}
  refine ⟨_,M.push id _ _ _,hrun,.imm (.tup _ _ rfl (λj hj=>?_)),post_write hM hW ⟨b,cap,rfl,.inr ⟨0,cap,rfl⟩,?_⟩ (Wk hk (by simp))⟩
  ·match j,hj with
   |0,_=>exact .bool _
   |1,_=>exact .int _ _
   |2,_=>exact .int _ _
  ·simp [Mem.push,World.iterAt,hblt]
 ·rename_i hlt
  have hlt':¬pos<(⟨s.toArray⟩:ByteArray).size:=by simpa [ByteArray.size] using hlt
  exact ⟨_,Go.Lib.run_next_end_at (P:=P) M.w b ⟨s.toArray⟩ pos ty hh hlt',.imm (.tup _ _ rfl (λj hj=>by
   match j,hj with
   |0,_=>exact .bool _))⟩
theorem Qpm (hM:M.ok) {S:Store} (hq:M.μ S.length=none) {c:V} (hf:flatV c=some (0,[])) {e:Nat} :
  Rep (M.push S.length (.arr 0 true e c) (.nil none) M.w) (.slice none 0 0) (.sref S.length 0)/\Post M (M.push S.length (.arr 0 true e c) (.nil none) M.w) S (S++[.arr 0 true e c]) [S.length]:=by
 have hg:M.w.grownBy M.w none:=⟨rfl,rfl,rfl,Z4 _,λ_ _ _=>rfl⟩
 exact ⟨Yl (loc:=.nil none) (n:=0) (Qj hf).2,post_push hM hq hg (λb o cap he=>by simp at he) ⟨λ_ _ _ he=>by simp at he,rfl,hf⟩⟩
end
variable {R:Type}
def CallR (P:Program) (g:FuncId) (args:Array Value) (w:World) (R:Value->World->Prop):Prop:=
 match (callFunc g args).run P w with
 |.ok (.value cv) w'=>R cv w'
 |.ok (.enter f us) w'=>Calls P f us w' fun | .returned cv,w''=>R cv w''|_,_=>False
 |_=>False
def SoundC (P:Program) (g:FuncId) (vs:List V) (p:Pack):Prop:=
 ∀
  (O:Nat->Prop) (w:World) (args:Array Value) (r:p.ρ),p.m=some r->args.size=vs.length->(∀j (h:j<vs.length),Rep0 O w (args.getD j Go.undef) vs[j])->(∀b,O b->b<w.heap.size) ->
  CallR P g args w λcv w'=>w.grownBy w' none/\Rep0 O w' cv (p.enc r)
def SoundClone (P:Program) (g:FuncId) (e:Nat):Prop:=
 ∀
  (M:Mem) (q:Nat) (cx:Value) (y:V) (z:Nat),M.ok->M.μ q=none->Cont M z cx y->contentVal y=true->CallR P g #[cx] M.w λcv w'=>∃loc n,lenV y=some n/\cv=Q0 loc n/\M.w.grownBy w' none /\
  (∀b o cap,loc=.blk b o cap->M.w.heap.size<=b/\b<w'.heap.size)/\(Step M (M.push q (.arr 0 true e (unexact y)) loc w')->BlkOK (M.push q (.arr 0 true e (unexact y)) loc w') loc (.arr 0 true e (unexact y)))
def MethOK (P:Program) (t:Nat) (m:String) (g:Nat):Prop:=∀(recv:Value) (w:World),(Go.method (P.types.size+Made.depth) t recv m).run P w=.ok (g,recv) w
structure Wc (P:Program) (C:Ctx):Prop where
 tab:C.T.check P=true
 mixed:P.follows .mixedOrders=true
 call:∀g vs p,C.inPl g=none->C.clone g=none->C.call g vs=some p->SoundC P g vs p
 clone:∀g e,C.inPl g=none->C.clone g=some e->SoundClone P g e
 meth:∀t m g,C.meth t m=some g->MethOK P t m g
theorem Qeo {M:Mem} {cv:Value} {v:V} (h:Rep M cv v) (hf:imm1 v=true):Rep0 M.O M.w cv v:=by
 cases h with
 |imm h=>exact h
 |ref h=>cases v<;>first|exact h.2.elim|simp [imm1] at hf
 |agg=>simp [imm1] at hf
 |tup=>simp [imm1] at hf
 |iface=>simp [imm1] at hf
 |
  func f cvs cs hl hr=>
  cases cs with
  |
   nil=>
   have:cvs = #[]:=by simpa using hl
   subst this;exact .func f
  |cons=>simp [imm1] at hf
theorem Qah {M:Mem} {cv:Value} {v:V} (h:Rep M cv v) (hf:immV v=true):Rep0 M.O M.w cv v:=by
 cases v with
 |
  agg cs=>
  obtain ⟨cvs,rfl,hl,ho,hr⟩:=Wp h
  exact .agg cvs cs hl ho λj hj=>Qeo (hr j hj) (Z23.1 hf _ (Z15 hj))
 |_=>exact Qeo h hf
theorem Qsq {S:Store} {v:V} (h:noRef v=true):immDeep S v=v:=by
 have one:∀{u:V},noRef1 u=true->immOf S u=u:=λ{u} hu=>by cases u<;>simp [noRef1] at hu<;>rfl
 cases v with
 |
  agg cs=>
  simp only [immDeep,V.agg.injEq]
  have:∀cs:List V,cs.all noRef1=true->cs.map (immOf S)=cs:=by
   intro cs
   induction cs with
   |nil=>intro _;rfl
   |
    cons c cs ih=>
    intro h
    simp only [List.all_cons,Z7] at h
    simp [one h.1,ih h.2]
  exact this cs h
 |_=>exact one (by simpa [noRef,cellsOf] using h)
theorem Qmc {S:Store}:∀{cs:List V},cs.all noRef1=true->Qb6 S cs=S
 |[],_=>rfl
 |
  c::cs,h=>by
  simp only [List.all_cons,Z7] at h
  have:freezeOne S c=S:=by cases c<;>simp [noRef1] at h<;>rfl
  rw [Qb6,this,Qmc h.2]
theorem Qiy {S:Store}:∀{vs:List V},vs.all noRef=true->Wa S vs=S
 |[],_=>rfl
 |
  v::vs,h=>by
  simp only [List.all_cons,Z7] at h
  rw [Wa,Qmc h.1,Qiy h.2]
theorem Qlf {S:Store}:∀{vs:List V},vs.all noRef=true->vs.map (immDeep S)=vs
 |[],_=>rfl
 |
  v::vs,h=>by
  simp only [List.all_cons,Z7] at h
  simp [Qsq h.1,Qlf h.2]
section
variable {P:Program} {C:Ctx} (hC:Wc P C) {o:Oper} {a:Act} {M:Mem} {S:Store} {env:Env} {v:V} {S':Store} {next:Act->World->Prop} {Q:Exit->Act->World->Prop}
def Next (C:Ctx) (o:Oper) (a:Act) (M:Mem) (S:Store) (env:Env) (v:V) (S':Store) (next:Act->World->Prop):Prop:=
 ∀cv M' wr,Rep M' cv v->Post M M' S S' wr->wr ⊆ opW C o env S->next (a.put o.dst cv) M'.w
abbrev K0:V->Store->Option (V×Store):=λv S=>some (v,S)
theorem Qt (hM:M.ok) (hn:Next C o a M S env v S' next) {cv:Value} {v':V} (hrun:(execOp a.eval o).run P M.w=.ok (.value cv) M.w) (hK:K0 v' S=some (v,S')) (hr:Rep M cv v'):o.wp P a M.w next Q:=by
 simp only [K0,Zs,Z2] at hK
 obtain ⟨rfl,rfl⟩:=hK
 exact Yn hrun (hn cv M [] hr (.refl hM S) (by simp))
theorem Wo (hn:Next C o a M S env v S' next) {cv:Value} {v':V} {M':Mem} {S'':Store} {wr:List Nat} (hrun:(execOp a.eval o).run P M.w=.ok (.value cv) M'.w) (hK:K0 v' S''=some (v,S')) (hr:Rep M' cv v') (hp:Post M M' S S'' wr) (hw:wr ⊆ opW C o env S):o.wp P a M.w next Q:=by
 simp only [K0,Zs,Z2] at hK
 obtain ⟨rfl,rfl⟩:=hK
 exact Yn hrun (hn cv M' wr hr hp hw)
end
section
variable {P:Program} {C:Ctx} (hC:Wc P C) {a:Act} {M:Mem} {S:Store} {env:Env} {v:V} {S':Store} {next:Act->World->Prop} {Q:Exit->Act->World->Prop} {I:Inl (V×Store)}
theorem Qsf {l c:Operand} (h:Qjf l c=true) {k:IntKind} {n:Int} (he:a.eval l=.int k n):∃kc,a.eval c=.int kc n:=by
 unfold Qjf at h
 split at h
 ·simp only [decide_eq_true_eq] at h
  subst h;exact ⟨k,he⟩
 ·rename_i k1 x1 k2 x2
  have:x1=x2:=by simpa using h
  subst this
  have e1':Value.int k1 x1=.int k n:=he
  cases e1'
  exact ⟨k2,rfl⟩
 ·simp at h
theorem Jv {v':V} {S' S:Store} {v:V} {k:Blk} (h:K0 v' (S++[k])=some (v,S')):S.length<S'.length:=by
 simp only [K0,Zs,Z2] at h
 obtain ⟨_,rfl⟩:=h
 simp
theorem Qr1 (hM:M.ok) (hq:M.μ S.length=none) {w:V} {p:List V×V} (h:Qip w=some p) {cv:Value} (hr:Rep M cv w) {e:Nat} :
  ∃A,Rep (M.push S.length (.arr 0 true e (unexact p.2)) (.nil A) M.w) cv (.agg (p.1++[.sref S.length 0]))/\Post M (M.push S.length (.arr 0 true e (unexact p.2)) (.nil A) M.w) S (S++[.arr 0 true e (unexact p.2)]) [S.length]:=by
 unfold Qip at h
 split at h
 case h_2=>simp at h
 rename_i cs
 split at h
 case h_2=>simp at h
 rename_i c hl
 split at h
 case isFalse=>simp at h
 rename_i hc
 simp only [Zs] at h;subst h
 have hcs:cs=cs.dropLast++[c]:=by
  have hne:cs≠[]:=λe0=>by rw [e0] at hl;simp at hl
  rw [List.getLast?_eq_some_getLast hne,Zs] at hl
  rw [<-hl];exact (List.dropLast_concat_getLast hne).symm
 obtain ⟨cvs,rfl,hsz,ho,hrr⟩:=Wp hr
 have hlen:cs.length=cs.dropLast.length+1:=by
  have:=congrArg List.length hcs
  simpa using this
 have hlast:=hrr cs.dropLast.length (by omega)
 have e1:cs[cs.dropLast.length]'(by omega)=c:=by
  have:cs[cs.dropLast.length]'(by omega)=(cs.dropLast++[c])[cs.dropLast.length]'(by simp):=by congr 1
  rw [this];simp
 rw [e1] at hlast
 have hcv:contentVal c=true:=by cases c<;>simp [isExact] at hc<;>rfl
 obtain ⟨A,n,cap,fl,cf,ecv,hf,hx,_⟩:=Wx hcv hlast
 have hn:n=0/\fl=[]:=by
  have h1:=Qj hf
  have hn0:n=0:=by cases c<;>simp [isNil,isExact] at hc<;>(rename_i l;cases l<;>simp [lenV] at h1 hc<;>omega)
  exact ⟨hn0,Z6 (by rw [h1.1,hn0];simp)⟩
 obtain ⟨rfl,rfl⟩:=hn
 have hcap:=hx hc.1
 subst hcap
 have hf':flatV (unexact c)=some (0,[]):=by cases c<;>simp [contentVal] at hcv<;>simpa [unexact,flatV] using hf
 have hg:M.w.grownBy M.w none:=⟨rfl,rfl,rfl,Z4 _,λ_ _ _=>rfl⟩
 have hl':∀b o cap,Loc.nil A=.blk b o cap->M.w.heap.size<=b/\b<M.w.heap.size:=λb o cap he=>by simp at he
 have hst:=push_step (k:=.arr 0 true e (unexact c)) hM hq hg hl'
 refine ⟨A,.agg cvs _ (by rw [hsz,hlen,Z10];rfl) (λj hj=>ho j (by rw [Z10] at hj;rw [hlen];exact hj)) (λj hj=>?_),post_push hM hq hg (λb o cap he=>by simp at he) ⟨λ_ _ _ he=>by simp at he,rfl,hf'⟩⟩
 simp only [Z10,Z9,Z54] at hj
 by_cases hj2:j<cs.dropLast.length
 ·rw [Z27 hj2]
  have:=hst.rep hM (hrr j (by omega))
  have e2:cs[j]'(by omega)=cs.dropLast[j]:=by rw [List.getElem_dropLast]
  rwa [e2] at this
 ·have hj3:j=cs.dropLast.length:=by omega
  subst hj3
  rw [Z37 (Z4 _)]
  simp only [Nat.sub_self,Z41]
  rw [ecv]
  exact Yl (loc:=.nil A) (n:=0) (Qj hf').2
include hC in
theorem Qso (o:Oper) (hM:M.ok) (hq:S.length<S'.length->M.μ S.length=none) (hρ:∀ty x,x∈o.op.operands->Rep M (a.eval x) (C.opv env ty x)) (hA:∀ty x,x∈o.op.operands->isMv o.op=false->∀id∈refs1 (C.opv env ty x),M.S id=S.getD id .dead)
  (hcall:∀c,o.op≠.call c) (h:C.evOp I true o env S K0=some (v,S')) (hn:Next C o a M S env v S' next):o.wp P a M.w next Q:=by
 have hT:=hC.tab
 obtain ⟨dst,op,type,pos,after,guard⟩:=o
 by_cases hmv:isMv op=true
 ·cases op<;>simp only [isMv,Z25] at hmv
  case move x=>exact Qt hM hn (by simp only [execOp,Sem.run_pure]) (by simpa only [Ctx.evOp] using h) (hρ _ x (by simp [Op.operands]))
 replace hA:=λty x hx=>hA ty x hx (by simpa using hmv)
 cases op<;>simp only [Ctx.evOp] at h<;>try (simp at h;done)
 case call c=>exact (hcall c rfl).elim
 case move x=>exact (hmv rfl).elim
 case assign x=>
  split at h
  ·rename_i hnil
   have hx:a.eval x=.slice none 0 0:=by
    cases x<;>simp only [isNilConst] at hnil<;>try (simp at hnil;done)
    split at hnil
    ·rename_i e;cases e;rfl
    ·simp at hnil
   split at h
   ·simp at h
   ·rename_i hu
    have hf:flatV (unexact (C.emptyOf type))=some (0,[]):=by
     revert hu
     unfold Ctx.emptyOf
     split
     ·split
      ·intro _;rfl
      ·intro _;rfl
      ·intro hu;exact (hu rfl).elim
      ·split
       ·intro hu;exact (hu rfl).elim
       ·rename_i hz;intro _;simp [unexact,flatV];omega
     ·intro hu;exact (hu rfl).elim
    have hq:=hq (Jv h)
    obtain ⟨hr,hp⟩:=Qpm hM hq hf (e:=C.elemT type)
    refine Wo hn (cv:=.slice none 0 0) (M':=M.push S.length (.arr 0 true (C.elemT type) (unexact (C.emptyOf type))) (.nil none) M.w) (by simp only [execOp,Sem.run_pure,hx];rfl) h hr hp (by simp [opW,hnil])
  ·exact Qt hM hn (by simp only [execOp,Sem.run_pure]) h (hρ _ x (by simp [Op.operands]))
 case pick c x y=>
  have hc:=hρ 0 c (by simp [Op.operands]);have hx:=hρ type x (by simp [Op.operands]);have hy:=hρ type y (by simp [Op.operands])
  split at h
  case h_2=>simp at h
  rename_i b hb
  rw [hb] at hc
  have hc':=Qan hc
  have hrun:(execOp a.eval ⟨dst,.pick c x y,type,pos,after,guard⟩).run P M.w=.ok (.value (if b then a.eval x else a.eval y)) M.w:=by
   simp only [execOp,hc',asBool,Sem.run_bind,Sem.run_pure,Result.andThen_ok]
  split at h
  ·rename_i p q hp hq'
   rw [hp] at hx;rw [hq'] at hy
   refine Qt hM hn hrun h ?_
   cases b
   ·simpa using hy
   ·simpa using hx
  ·cases b
   ·exact Qt hM hn hrun h (by simpa using hy)
   ·exact Qt hM hn hrun h (by simpa using hx)
 case alloc e=>
  split at h
  case h_2=>simp at h
  rename_i k hk
  have hq:=hq (Jv h)
  obtain ⟨cur,cap,hrun,hb⟩:=Qvp hT hM hq hk
  have hdst:∀b o cap',Loc.blk M.w.heap.size 0 cap=.blk b o cap'->M.w.heap.size<=b/\b<(M.w.alloc (.cells cur e)).heap.size:=λb o cap' he=>by cases he;simp
  exact Wo hn (M':=M.push S.length k (.blk M.w.heap.size 0 cap) (M.w.alloc (.cells cur e))) (by simp only [execOp,Sem.run_bind,hrun,Result.andThen_ok,Sem.run_pure];rfl) h Qjj (post_push hM hq (Qcu _ _) hdst hb) (by simp [opW])
 case box e x=>
  have hx:=hρ e x (by simp [Op.operands])
  split at h
  case isFalse=>simp at h
  rename_i hc
  have hq:=hq (Jv h)
  obtain ⟨hrun,hr⟩:=Qw9 (P:=P) (e:=e) hx hc.1
  have hdst:∀b o cap',Loc.blk M.w.heap.size 0 0=.blk b o cap'->M.w.heap.size<=b/\b<(M.w.alloc (.cells (a.eval x).cells e)).heap.size:=λb o cap' he=>by cases he;simp
  exact Wo hn (M':=M.push S.length (.cells e (cellsOf (C.opv env e x))) (.blk M.w.heap.size 0 0) (M.w.alloc (.cells (a.eval x).cells e))) (by simp only [execOp,Sem.run_bind,hrun,Result.andThen_ok,Sem.run_pure];rfl) h Qjj
   (post_push hM hq (Qcu _ _) hdst (Qkh hM hq hr 0)) (by simp [opW])
 case build t parts=>
  split at h
  case h_2=>simp at h
  rename_i w hw
  obtain ⟨cv,hrun,hr⟩:=Qxm (M:=M) hT (qs:=parts.map λ(i,x)=>(i,a.eval x)) hw (by simp) (λj hj hj'=>by
   have hjp:j<parts.toList.length:=by simpa using hj
   have hm:(parts.toList[j]).2∈(Op.build t parts).operands:=by
    simp only [Op.operands,List.mem_toArray]
    exact List.mem_map_of_mem (Z15 hjp)
   refine ⟨by simp,?_⟩
   have:=hρ (C.partType t (parts.toList[j]).1) _ hm
   simpa using this)
  cases ho:C.ownD dst with
  |
   false=>
   rw [ho] at h
   exact Qt hM hn (by simp only [execOp,Sem.run_bind,hrun,Result.andThen_ok,Sem.run_pure]) h hr
  |
   true=>
   rw [ho] at h
   simp only [Zd] at h
   split at h
   case h_2=>simp at h
   rename_i p hp
   obtain ⟨A,hr',hP⟩:=Qr1 hM (hq (Jv h)) hp hr (e:=C.lastE t)
   exact Wo hn (M':=M.push S.length (.arr 0 true (C.lastE t) (unexact p.2)) (.nil A) M.w) (by simp only [execOp,Sem.run_bind,hrun,Result.andThen_ok,Sem.run_pure];rfl) h hr' hP (by simp [opW,ho])
 case buildSlice t len parts=>
  split at h
  case isFalse=>simp at h
  split at h
  case h_2=>simp at h
  rename_i hnr w hw
  obtain ⟨cv,w',hrun,hg,hr,hown⟩:=Qi5 (M:=M) hT hM (qs:=parts.map λ(i,x)=>(i,a.eval x)) hw (by simp) (λj hj hj'=>by
   have hjp:j<parts.toList.length:=by simpa using hj
   have hm:(parts.toList[j]).2∈(Op.buildSlice t len parts).operands:=by
    simp only [Op.operands,List.mem_toArray]
    exact List.mem_map_of_mem (Z15 hjp)
   refine ⟨by simp,?_⟩
   have:=hρ (C.partType t (parts.toList[j]).1) _ hm
   simpa using this)
  cases ho:C.ownD dst with
  |
   false=>
   rw [ho] at h
   exact Wo hn (M':={M with w:=w'}) (by simp only [execOp,Sem.run_bind,hrun,Result.andThen_ok,Sem.run_pure]) h (.imm hr) (post_world hM S hg) (by simp)
  |
   true=>
   rw [ho] at h
   simp only [Zd] at h
   have hq:=hq (Jv h)
   obtain ⟨cap,rfl,hl,hlt,hb⟩:=hown _ hq
   have hdst:∀b o cap',Loc.blk M.w.heap.size 0 cap=.blk b o cap'->M.w.heap.size<=b/\b<w'.heap.size:=λb o cap' he=>by cases he;exact ⟨Z4 _,hlt⟩
   exact Wo hn (M':=M.push S.length (.arr 0 false (C.elemT t) (unexact w)) (.blk M.w.heap.size 0 cap) w') (by simp only [execOp,Sem.run_bind,hrun,Result.andThen_ok,Sem.run_pure];rfl) h
    (Yl hl) (post_push hM hq hg hdst hb) (by simp [opW,ho])
 case load t x=>
  obtain ⟨cv,v',hrun,hK,hr⟩:=Qoz hT hM (hA 0 x (by simp [Op.operands])) h (hρ 0 x (by simp [Op.operands]))
  exact Qt hM hn (by simp only [execOp,Sem.run_bind,hrun,Result.andThen_ok,Sem.run_pure]) hK hr
 case store t x y=>
  obtain ⟨M',S'',hrun,hK,hp⟩:=Qyz hT hM (hA 0 x (by simp [Op.operands])) h (hρ 0 x (by simp [Op.operands])) (hρ t y (by simp [Op.operands]))
  simp only [K0,Zs,Z2] at hK
  obtain ⟨rfl,rfl⟩:=hK
  exact Qxq (by simp only [execOp,Sem.run_bind,hrun,Result.andThen_ok,Sem.run_pure]) (hn Go.undef M' _ (.imm (.tup #[] [] rfl (λj hj=>by simp at hj))) hp (by simp [opW]))
 case nilCheck x=>
  have hx:=hρ 0 x (by simp [Op.operands]);have hS:=hA 0 x (by simp [Op.operands])
  split at h
  ·rename_i id off he
   rw [he] at hx hS
   split at h
   case isFalse=>simp at h
   rename_i hl
   obtain ⟨ad,e1,_⟩:=Qno hS hl hx
   exact Qt hM hn (cv:=.pointer (some ad)) (by simp only [execOp,e1,Sem.run_pure]) h (by rw [e1] at hx;exact hx)
  ·rename_i id ver i off he
   rw [he] at hx hS
   split at h
   case isFalse=>simp at h
   rename_i hl
   obtain ⟨ad,e1,_⟩:=Qmm hS hl hx
   exact Qt hM hn (cv:=.pointer (some ad)) (by simp only [execOp,e1,Sem.run_pure]) h (by rw [e1] at hx;exact hx)
  ·rename_i cs he
   rw [he] at hx
   obtain ⟨ad,e1,_⟩:=Qky hx
   exact Qt hM hn (cv:=.pointer (some ad)) (by simp only [execOp,e1,Sem.run_pure]) h (by rw [e1] at hx;exact hx)
  ·rename_i f cs he
   rw [he] at hx
   obtain ⟨cvs,e1,_⟩:=Qau hx
   exact Qt hM hn (cv:=.func (.func f) #[] cvs) (by simp only [execOp,e1,Sem.run_pure]) h (by rw [e1] at hx;exact hx)
  ·simp at h
 case binOp op t x y z=>
  obtain ⟨cv,v',hrun,hK,hr⟩:=Qte hT x y (hA t x (by simp [Op.operands])) h (hρ t x (by simp [Op.operands])) (hρ t y (by simp [Op.operands]))
  simp only [Sem.run_bind] at hrun
  exact Qt hM hn (by simp only [execOp,Sem.run_bind,hrun,Result.andThen_ok,Sem.run_pure]) hK hr
 case unOp op t x=>
  have hx:=hρ 0 x (by simp [Op.operands])
  split at h
  ·rename_i k n he
   rw [he] at hx
   have e1:=Qp hx
   exact Qt hM hn (by simp only [execOp,e1,Op.unary,Op.intArith,Sem.run_bind,Sem.run_pure,Result.andThen_ok];rfl) h (.imm (.int _ _))
  ·rename_i b he
   rw [he] at hx
   have e1:=Qan hx
   exact Qt hM hn (by simp only [execOp,e1,Op.unary,Sem.run_bind,Sem.run_pure,Result.andThen_ok]) h (.imm (.bool _))
  ·simp at h
 case convert src dst' x=>
  have hx:=hρ src x (by simp [Op.operands]);have hS:=hA src x (by simp [Op.operands])
  unfold Ctx.convertV at h
  split at h
  ·rename_i k' k kx n h1 h2 he
   rw [he] at hx
   have e1:=Qp hx
   exact Qt hM hn (by simp only [execOp,e1,Sem.run_bind,Qy6 hT h1 h2,Result.andThen_ok,Sem.run_pure];rfl) h (.imm (.int _ _))
  ·rename_i s h1 h2 he
   rw [he] at hx
   obtain ⟨s',e1,e2⟩:=Ye hx
   exact Qt hM hn (by simp only [execOp,e1,Sem.run_bind,Qvt hT h1 h2,Result.andThen_ok,Sem.run_pure]) h (.imm (.str _ _ e2))
  ·rename_i k' kx n h1 h2 he
   rw [he] at hx
   have e1:=Qp hx
   exact Qt hM hn (by simp only [execOp,e1,Sem.run_bind,Qyj hT h1 h2,Result.andThen_ok,Sem.run_pure]) h (.imm (.str _ _ rfl))
  ·rename_i e s h1 h2 he
   rw [he] at hx
   obtain ⟨s',e1,rfl⟩:=Ye hx
   split at h
   case h_2=>simp at h
   rename_i h3
   split at h
   case isFalse=>simp at h
   rename_i hl
   have hz:s'.size=s'.data.toList.length:=by rw [Z31];rfl
   have hq:=hq (Jv h)
   obtain ⟨cap,w',hrun,hg,hlt,hb⟩:=Qtl (M:=M) hT hM hq h1 h2 h3 (s:=s') (by omega)
   have hdst:∀b o cap',Loc.blk M.w.heap.size 0 cap=.blk b o cap'->M.w.heap.size<=b/\b<w'.heap.size:=λb o cap' he=>by cases he;exact ⟨Z4 _,hlt⟩
   exact Wo hn (M':=M.push S.length (.arr 0 false e (.ints true .u8 (s'.data.toList.map λc=>(c.toNat:Int)))) (.blk M.w.heap.size 0 cap) w') (by simp only [execOp,e1,Sem.run_bind,hrun,Result.andThen_ok,Sem.run_pure];rfl) h
    (Yl (by simp only [lenV,Z13,hz])) (post_push hM hq hg hdst hb) (by simp [opW,h2])
  ·rename_i e id ver h1 h2 he
   rw [he] at hx hS
   split at h
   case h_2=>simp at h
   rename_i ver' e' l h3 hk
   split at h
   case isFalse=>simp at h
   rename_i hc
   obtain ⟨rfl,rfl⟩:=hc
   have hk':=(hS id (by simp [refs1])).trans hk
   obtain ⟨cv,loc,w',hrun,hr,hW,hb⟩:=Qvk hT hM h1 h2 h3 hk' hx
   exact Wo hn (M':=M.push id (.arr ver' false e' (.ints true .u8 l)) loc w') (by simp only [execOp,Sem.run_bind,hrun,Result.andThen_ok,Sem.run_pure];rfl) h hr (post_write hM hW hb (Wk hk (by simp))) (by simp [opW,h2,he,refs1])
  ·rename_i e _ h1 h2
   split at h
   case h_2=>simp at h
   rename_i y l h3 h4
   have hcont:=Yx hM hS hx (by rw [h4];rfl)
   rw [h4] at hcont
   obtain ⟨s,hrun,hs⟩:=Qt4 hT h1 h3 h2 hcont
   exact Qt hM hn (by simp only [execOp,Sem.run_bind,hrun,Result.andThen_ok,Sem.run_pure]) h (.imm (.str _ _ hs))
  ·simp at h
 case makeFunc fn first captured=>
  split at h
  case h_2=>simp at h
  rename_i f
  split at h
  case isFalse=>simp at h
  rename_i h0
  have hf:first = #[]:=by simpa using h0
  subst hf
  refine Qt hM hn (cv:=.func (.func f) #[] (captured.map a.eval)) (by simp [execOp,Instr.makeFunc]) h (.func _ _ _ (by simp) (λj hj=>?_))
  have hj':j<captured.size:=by simpa using hj
  have:=hρ 0 captured[j] (by simp [Op.operands])
  simpa [Z0,hj'] using this
 case makeInterface t x=>
  split at h
  case h_2=>simp at h
  rename_i fs hd
  split at h
  case isFalse=>simp at h
  rename_i hc
  obtain ⟨fs',hu,_⟩:=Qe6 hT hd
  exact Qt hM hn (cv:=.iface t (a.eval x)) (by simp [execOp,Instr.makeInterface,run_underlying hu]) h (.iface _ _ _ (Qah (hρ t x (by simp [Op.operands])) hc))
 case makeSlice t l c=>
  split at h
  case isFalse=>simp at h
  rename_i hlc
  split at h
  case h_2=>simp at h
  rename_i k n he
  have hl:=hρ 0 l (by simp [Op.operands])
  rw [he] at hl
  have e1:=Qp hl
  have e2:=Qsf hlc e1
  obtain ⟨kc,e2⟩:=e2
  unfold Ctx.makeSliceV at h
  split at h
  case h_2=>simp at h
  rename_i e hd
  split at h
  case isTrue=>simp at h
  rename_i hb0
  split at h
  case isFalse=>simp at h
  rename_i hc
  obtain ⟨h0,hby⟩:=hc
  split at h
  case h_2=>simp at h
  rename_i cc hz
  have hq:=hq (Jv h)
  obtain ⟨cur,hrun,hb⟩:=Qs7 hT hM hq hd (k:=k) (kc:=kc) h0 hby hb0 hz
  have hdst:∀b o cap',Loc.blk M.w.heap.size 0 n.toNat=.blk b o cap'->M.w.heap.size<=b/\b<(M.w.alloc (.cells cur e)).heap.size:=λb o cap' he=>by cases he;simp
  exact Wo hn (M':=M.push S.length (.arr 0 false e cc) (.blk M.w.heap.size 0 n.toNat) (M.w.alloc (.cells cur e))) (by simp only [execOp,e1,e2,Sem.run_bind,hrun,Result.andThen_ok,Sem.run_pure];rfl) h
   (Yl (Qf5 hT hz).2.1) (post_push hM hq (Qcu _ _) hdst hb) (by simp [opW])
 case slice t x lo hi mx=>
  have hx:=λty=>hρ ty x (by simp [Op.operands]);have hS:=λty=>hA ty x (by simp [Op.operands])
  have hopt:∀(o:Option Operand),(∀y,o=some y->y∈(Op.slice t x lo hi mx).operands)->(∀v,o.map (C.opv env 0)=some v->∃c,o.map a.eval=some c/\Rep M c v)/\(o.map (C.opv env 0)=none->o.map a.eval=none):=λo ho=>by
   cases o with
   |none=>exact ⟨λv hv=>by simp at hv,λ_=>rfl⟩
   |some y=>exact ⟨λv hv=>by
     simp only [Option.map_some,Zs] at hv;subst hv
     exact ⟨_,rfl,hρ 0 y (ho y rfl)⟩,λhv=>by simp at hv⟩
  have hlo:=hopt lo (λy hy=>by subst hy;simp [Op.operands])
  have hhi:=hopt hi (λy hy=>by subst hy;simp [Op.operands])
  have hmx:=hopt mx (λy hy=>by subst hy;simp [Op.operands])
  split at h
  ·split at h
   case isFalse=>simp at h
   rename_i hnone
   have hm:mx=none:=by simpa using hnone
   subst hm
   obtain ⟨cv,v',hrun,hK,hr⟩:=Qw8 hT hM (hS 0) h (hx 0) hlo.1 hlo.2 hhi.1 hhi.2
   exact Qt hM hn (by simp only [execOp,Sem.run_bind,Option.map_none,hrun,Result.andThen_ok,Sem.run_pure]) hK hr
  ·obtain ⟨cv,v',hrun,hK,hr⟩:=Qyu hT hM (hS t) h (hx t) hlo.1 hlo.2 hhi.1 hhi.2 hmx.1 hmx.2
   exact Qt hM hn (by simp only [execOp,Sem.run_bind,hrun,Result.andThen_ok,Sem.run_pure]) hK hr
 case fieldAddr t x f=>
  have hx:=hρ 0 x (by simp [Op.operands]);have hS:=hA 0 x (by simp [Op.operands])
  split at h
  case h_2=>simp at h
  rename_i fs hd
  split at h
  case h_2=>simp at h
  rename_i off size hf
  split at h
  ·simp at h
  rename_i hz
  split at h
  ·rename_i id o he
   rw [he] at hx hS
   split at h
   case isFalse=>simp at h
   rename_i hl
   obtain ⟨ad,e1,hr⟩:=Qno hS hl hx
   exact Qt hM hn (by simp only [execOp,e1,Sem.run_bind,Qir hT hd hf hz,Result.andThen_ok,Sem.run_pure]) h (hr off)
  ·rename_i cs he
   rw [he] at hx
   obtain ⟨ad,e1,hr⟩:=Qky hx
   exact Qt hM hn (by simp only [execOp,e1,Sem.run_bind,Qir hT hd hf hz,Result.andThen_ok,Sem.run_pure]) h (hr off)
  ·rename_i id ver i o he
   rw [he] at hx hS
   split at h
   case isFalse=>simp at h
   rename_i hl
   obtain ⟨ad,e1,hr⟩:=Qmm hS hl hx
   exact Qt hM hn (by simp only [execOp,e1,Sem.run_bind,Qir hT hd hf hz,Result.andThen_ok,Sem.run_pure]) h (hr off)
  ·simp at h
 case field t x f=>
  have hx:=hρ t x (by simp [Op.operands])
  split at h
  case h_2=>simp at h
  rename_i fs hd
  split at h
  case h_2=>simp at h
  rename_i off size cs hf he
  rw [he] at hx
  split at h
  case isFalse=>simp at h
  rename_i hc
  obtain ⟨cv,hrun,hr⟩:=Qxb hT hd hf hc.1 hc.2 hx
  exact Qt hM hn (by simp only [execOp,Sem.run_bind,hrun,Result.andThen_ok,Sem.run_pure]) h hr
 case indexAddr t x ix=>
  obtain ⟨cv,v',hrun,hK,hr⟩:=Qvc hT hM (hA t x (by simp [Op.operands])) h (hρ t x (by simp [Op.operands])) (hρ 0 ix (by simp [Op.operands]))
  exact Qt hM hn (by simp only [execOp,Sem.run_bind,hrun,Result.andThen_ok,Sem.run_pure]) hK hr
 case index t x ix=>
  obtain ⟨cv,v',hrun,hK,hr⟩:=Qr9 (K:=λv=>K0 v S) hT h (hρ t x (by simp [Op.operands])) (hρ 0 ix (by simp [Op.operands]))
  exact Qt hM hn (by simp only [execOp,Sem.run_bind,hrun,Result.andThen_ok,Sem.run_pure]) hK hr
 case range t x=>
  have hx:=hρ t x (by simp [Op.operands])
  split at h
  case h_2=>simp at h
  rename_i s hd he
  rw [he] at hx
  obtain ⟨s',e1,rfl⟩:=Ye hx
  have hq:=hq (Jv h)
  obtain ⟨M',hrun,hr,hp⟩:=Qzo (P:=P) hT hM hq hd (s:=s')
  exact Wo hn (by simp only [execOp,e1,Sem.run_bind,hrun,Result.andThen_ok,Sem.run_pure]) h hr hp (by simp [opW])
 case next it b=>
  cases b<;>simp only [Ctx.evOp] at h<;>try (simp at h;done)
  have hx:=hρ 0 it (by simp [Op.operands]);have hS:=hA 0 it (by simp [Op.operands])
  split at h
  case h_2=>simp at h
  rename_i id he
  have hW:opW C ⟨dst,.next it true,type,pos,after,guard⟩ env S=[id]:=by simp [opW,he,refs1]
  rw [he] at hx hS
  split at h
  case h_2=>simp at h
  rename_i s p hk
  have hr:=Qr4 (P:=P) hM (hS id (by simp [refs1])) hk hx (ty:=type)
  split at h
  ·rename_i hlt
   rw [if_pos hlt] at hr
   obtain ⟨cv,M',hrun,hr,hp⟩:=hr
   exact Wo hn (by simp only [execOp,Sem.run_bind,hrun,Result.andThen_ok,Sem.run_pure]) h hr hp (by rw [hW];simp)
  ·rename_i hlt
   rw [if_neg hlt] at hr
   obtain ⟨cv,hrun,hr⟩:=hr
   exact Qt hM hn (by simp only [execOp,Sem.run_bind,hrun,Result.andThen_ok,Sem.run_pure]) h hr
 case extract x i=>
  have hx:=hρ 0 x (by simp [Op.operands])
  split at h
  case h_2=>simp at h
  rename_i vs he
  rw [he] at hx
  split at h
  case h_2=>simp at h
  rename_i w hw
  obtain ⟨cvs,e1,hl,hr⟩:=Qag hx
  have hi:i<vs.length:=by
   by_cases hi:i<vs.length
   ·exact hi
   ·rw [Z17 (by omega)] at hw;simp at hw
  have hi':i<cvs.size:=by omega
  have hr':=hr i hi
  rw [Z1 hi] at hw;simp only [Zs] at hw
  rw [hw] at hr'
  exact Qt hM hn (cv:=cvs.getD i Go.undef) (by simp [execOp,e1,Instr.extract,hi',Z0]) h hr'
end
variable {R:Type}
abbrev Bd (f:Option (V×Store)) (K:V->Store->Option R):Option R:=f.bind λp=>K p.1 p.2
theorem Qj1 (C:Ctx) (t:Nat) (S:Store) (x y:V) (K:V->Store->Option R):C.appendV t S x y K=Bd (C.appendV t S x y K0) K:=by
 unfold Ctx.appendV
 repeat' split
 all_goals first|rfl|(cases isNil x<;>cases isCons x<;>rfl)
theorem Qrv (C:Ctx) (t:Nat) (S:Store) (x y:V) (K:V->Store->Option R):C.appendK t S x y K=Bd (C.appendK t S x y K0) K:=by
 unfold Ctx.appendK
 repeat' split
 all_goals rfl
theorem Qzp (C:Ctx) (t:Nat) (S:Store) (x y:V) (K:V->Store->Option R):C.appendX t S x y K=Bd (C.appendX t S x y K0) K:=by
 unfold Ctx.appendX
 cases isExact x<;>simp only [Zd,Zc]<;>(repeat' split)
 all_goals rfl
theorem Qyw (C:Ctx) (t:Nat) (S:Store) (x y:V) (K:V->Store->Option R):C.appendW t S x y K=Bd (C.appendW t S x y K0) K:=by
 unfold Ctx.appendW
 repeat' split
 all_goals rfl
theorem Quw (C:Ctx) (t:Nat) (S:Store) (x y:V) (K:V->Store->Option R):C.copyV t S x y K=Bd (C.copyV t S x y K0) K:=by
 unfold Ctx.copyV
 repeat' split
 all_goals rfl
theorem Qzg (C:Ctx) (t:Nat) (S:Store) (x:V) (K:V->Store->Option R):C.clearV t S x K=Bd (C.clearV t S x K0) K:=by
 unfold Ctx.clearV
 repeat' split
 all_goals rfl
section
variable {P:Program} {C:Ctx} (hC:Wc P C) {a:Act} {M:Mem} {S:Store} {env:Env} {v:V} {S':Store} {next:Act->World->Prop} {Q:Exit->Act->World->Prop} {I:Inl (V×Store)}
def argV (C:Ctx) (env:Env) (c:Call):List V:=c.args.toList.zipIdx.map λp=>C.opv env (c.argTypes.getD p.2 0) p.1
theorem Wy {c:Call}:(argV C env c).length=c.args.size:=by simp [argV]
theorem Qfa {c:Call} {j:Nat} (h:j<(argV C env c).length):(argV C env c)[j]=C.opv env (c.argTypes.getD j 0) (c.args[j]'(by rw [Wy] at h;exact h)):=by
 simp [argV]
theorem Qba {c:Call} (hρ:∀ty x,x∈c.operands->Rep M (a.eval x) (C.opv env ty x)):∀j (h:j<(argV C env c).length),Rep M ((c.args.map a.eval).getD j Go.undef) (argV C env c)[j]:=by
 intro j h
 have h':j<c.args.size:=by simpa [argV] using h
 rw [Qfa h]
 have:=hρ (c.argTypes.getD j 0) c.args[j] (by simp [Call.operands])
 simpa [Z0,h'] using this
theorem Qpj {c:Call} (hρ:∀ty x,x∈c.operands->Rep M (a.eval x) (C.opv env ty x)) (hA:∀ty x,x∈c.operands->∀id∈refs1 (C.opv env ty x),M.S id=S.getD id .dead) {x:V} (hargs:argV C env c=[x]) :
  ∃cx,c.args.map a.eval = #[cx]/\Rep M cx x/\(∀id∈refs1 x,M.S id=S.getD id .dead):=by
 have h1:c.args.size=1:=by rw [<-Wy (C:=C) (env:=env),hargs];rfl
 refine ⟨(c.args.map a.eval).getD 0 Go.undef,?_,?_,?_⟩
 ·apply Array.ext
  ·simp [h1]
  ·intro i hi hi'
   have:i=0:=by simp at hi';exact hi'
   subst this
   simp [Z0,h1]
 ·have:=Qba hρ 0 (by rw [hargs];simp)
  simpa only [hargs,Z41] using this
 ·have:=Qfa (C:=C) (env:=env) (c:=c) (j:=0) (by rw [hargs];simp)
  simp only [hargs,Z41] at this
  rw [this];exact hA _ _ (by simp [Call.operands])
theorem Qm0 {c:Call} (hρ:∀ty x,x∈c.operands->Rep M (a.eval x) (C.opv env ty x)) (hA:∀ty x,x∈c.operands->∀id∈refs1 (C.opv env ty x),M.S id=S.getD id .dead) {x y:V} (hargs:argV C env c=[x,y]) :
  ∃cx cy,c.args.map a.eval = #[cx,cy]/\Rep M cx x/\Rep M cy y/\(∀id∈refs1 x,M.S id=S.getD id .dead)/\(∀id∈refs1 y,M.S id=S.getD id .dead):=by
 have h1:c.args.size=2:=by rw [<-Wy (C:=C) (env:=env),hargs];rfl
 refine ⟨(c.args.map a.eval).getD 0 Go.undef,(c.args.map a.eval).getD 1 Go.undef,?_,?_,?_,?_,?_⟩
 ·apply Array.ext
  ·simp [h1]
  ·intro i hi hi'
   have:i=0\/i=1:=by simp at hi';omega
   rcases this with rfl|rfl<;>simp [Z0,h1]
 ·have:=Qba hρ 0 (by rw [hargs];simp)
  simpa only [hargs,Z41] using this
 ·have:=Qba hρ 1 (by rw [hargs];simp)
  simpa only [hargs,List.getElem_cons_succ,Z41] using this
 ·have:=Qfa (C:=C) (env:=env) (c:=c) (j:=0) (by rw [hargs];simp)
  simp only [hargs,Z41] at this
  rw [this];exact hA _ _ (by simp [Call.operands])
 ·have:=Qfa (C:=C) (env:=env) (c:=c) (j:=1) (by rw [hargs];simp)
  simp only [hargs,List.getElem_cons_succ,Z41] at this
  rw [this];exact hA _ _ (by simp [Call.operands])
theorem Qfu {o:Oper} {c:Call} (hop:o.op=.call c) {f:Operand} (hcal:c.callee=.value f) {g:FuncId} {cvs:Array Value} (hf:a.eval f=.func (.func g) #[] cvs) {R:Value->World->Prop}
  (h:CallR P g (c.args.map a.eval++cvs) M.w R) (hn:∀cv w',R cv w'->next (a.put o.dst cv) w'):o.wp P a M.w next Q:=by
 have hrun:(execOp a.eval o).run P M.w=(callFunc g (c.args.map a.eval++cvs)).run P M.w:=by
  simp [execOp,hop,resolve,hcal,hf,Deferred.ofValue,invoke]
 unfold Oper.wp
 rw [hrun]
 unfold CallR at h
 split at h
 ·rename_i e;rw [e];exact hn _ _ h
 ·rename_i e;rw [e]
  exact h.mono λe w' he=>by cases e<;>first|exact hn _ _ he|exact he.elim
 ·exact h.elim
theorem Qzc {o:Oper} {c:Call} (hop:o.op=.call c) {f:Operand} {m:String} (hcal:c.callee=.invoke f m) {t:TypeId} {g:FuncId} {cv0:Value} (hf:a.eval f=.iface t cv0) (hm:MethOK P t m g) {R:Value->World->Prop}
  (h:CallR P g (#[cv0]++c.args.map a.eval) M.w R) (hn:∀cv w',R cv w'->next (a.put o.dst cv) w'):o.wp P a M.w next Q:=by
 have hex:(#[Value.iface t cv0]++c.args.map a.eval).extract 1 (#[Value.iface t cv0]++c.args.map a.eval).size=c.args.map a.eval:=by
  apply Array.ext
  ·simp
  ·intro i h1 h2
   rw [Array.getElem_extract,Array.getElem_append_right (by simp)]
   simp
 have hrun:(execOp a.eval o).run P M.w=(callFunc g (#[cv0]++c.args.map a.eval)).run P M.w:=by
  have h0:(#[Value.iface t cv0]++c.args.map a.eval)[0]? = some (.iface t cv0):=by rw [Z51 (by simp)];rfl
  have hmm:=hm cv0 M.w
  simp only [execOp,hop,resolve,hcal,hf,Sem.run_bind,Sem.run_pure,Result.andThen_ok,invoke,h0,hex,callMethod,run_program,hmm]
 unfold Oper.wp
 rw [hrun]
 unfold CallR at h
 split at h
 ·rename_i e;rw [e];exact hn _ _ h
 ·rename_i e;rw [e]
  exact h.mono λe w' he=>by cases e<;>first|exact hn _ _ he|exact he.elim
 ·exact h.elim
theorem Qy9 (w:World) (b n:Nat):w.grownBy (w.freeze ⟨b,0,none⟩ n) (some b):=by
 unfold World.freeze
 split
 ·exact ⟨rfl,rfl,rfl,Z4 _,λ_ _ _=>rfl⟩
 ·exact ⟨rfl,rfl,rfl,by simp,λk hk hne=>by
   simp only [Z97]
   rw [if_neg (λe=>hne (by rw [e]))]⟩
theorem Qh8 (x:V):refs1 (J7 x)=refs1 x:=by cases x<;>rfl
theorem Qmt {M:Mem} {cx:Value} (h:Rep M cx .nilsl):cx=.slice none 0 0:=by
 cases h with
 |imm h=>cases h<;>first|rfl|(simp_all [flatV];done)
 |ref h=>exact h.2.elim
theorem Qqr {M:Mem} {cx:Value} {x:V} (h:Rep M cx x):Rep M cx (J7 x):=by
 cases x<;>try exact h
 rw [Qmt h]
 exact .imm (.slice none 0 0 (.ints true .u8 []) [] (λ_=>Go.undef) rfl (λ_=>rfl) (Z4 _) (λ_=>rfl) (λj hj=>absurd hj (by simp)) (λj hj=>absurd hj (by simp)) (λj hj=>absurd hj (by simp)))
theorem Qtq (hM:M.ok) {id ver:Nat} {g:Bool} {e:Nat} {c:V} (hk:M.S id=.arr ver g e c) {n0:Nat} (hl0:lenV c=some n0) (hc:0<n0) {cx:Value} (hx:Rep M cx (.sref id ver)) (ts:Array TypeId) (ty:TypeId) :
  ∃cv,(Builtin.unsafeSliceData_ ts ty #[cx]).run P M.w=.ok cv M.w/\Rep M cv (.eptr id ver 0 0):=by
 obtain ⟨_,⟨hsm,hle⟩,hp⟩:=W0 hx
 have hcc:contentB (M.S id) ver=some c:=by rw [hk];simp [contentB]
 obtain ⟨loc,n,hμ,hn,rfl⟩:=hp c hcc
 have hB:=hM.blk id _ hμ
 rw [hk] at hB
 obtain ⟨_,hB⟩:=hB
 have hn0:0<n:=by
  rw [hl0] at hn;simp only [Zs] at hn;omega
 cases loc with
 |
  nil a=>
  have h9:=(Qj hB.2).2
  rw [hn] at h9;simp at h9;omega
 |
  blk b o cap=>
  obtain ⟨n2,fl,_,_,hf,rfl,hle2,_⟩:=hB
  have h9:=(Qj hf).2
  rw [hn] at h9;simp at h9
  refine ⟨_,Lib.run_unsafeSliceData_row M.w ts ty ⟨b,0,none⟩ n cap (by omega),.ref ⟨rfl,⟨hsm,hle⟩,λc' hc'=>⟨b,0,cap,hμ,?_⟩⟩⟩
  simp
theorem Qys (hT:C.T.check P=true) (hM:M.ok) {id ver t e:Nat} (hd:(C.ty t).d=.ptr e) (hb:C.bad e=false) (hs:(C.ty e).size=1) {x:Bool} {l:J0} (hk:M.S id=.arr ver true e (.ints x .u8 l)) (hl:0<l.length) (hby:l.all Qcf=true)
  {cx:Value} (hx:Rep M cx (.eptr id ver 0 0)) (it:TypeId) (ty:TypeId) :
  ∃loc s w',(Builtin.unsafeString_ #[t,it] ty #[cx,.int .i64 l.length]).run P M.w=.ok (.string s) w'/\s.data.toList=(l.map λn=>UInt8.ofNat n.toNat)/\Wq M id loc loc .dead w':=by
 obtain ⟨_,_,hp⟩:=Qdm hx
 have hcc:contentB (M.S id) ver=some (.ints x .u8 l):=by rw [hk];simp [contentB]
 obtain ⟨b,o,cap,hμ,rfl⟩:=hp _ hcc
 have hB:=hM.blk id _ hμ
 rw [hk] at hB
 obtain ⟨hB0,n,fl,cur,fz,hf,rfl,hle,hmx,hh,hcz,hfz,_,_,hcell⟩:=hB
 obtain rfl:=hfz rfl
 simp only [flatV,Zs,Z2] at hf
 obtain ⟨rfl,rfl⟩:=hf
 have hu:=Qa8 hT hd
 have hce:P.cellsOf e=1:=by
  obtain ⟨j,d,hj,_,hs',_⟩:=Wz hT (Wg hb)
  simp [Program.cellsOf,hj,hs',hs]
 have hsh:M.w.shape? b=some (e,cur.size):=by simp [World.shape?,hh]
 simp only [zOf,Z120] at hcz
 have hget:∀j (h:j<l.length),cur[j]? = some (.int .u8 l[j]):=λj hj=>by
  obtain ⟨h1,h2⟩:=hcell j (by simpa using hj)
  rw [Z20] at h1
  have:=Qp (M:=M) (.imm h1)
  have hjc:j<cur.size:=by omega
  simp only [Z0,Z29 hjc,Z52] at this
  rw [Z29 hjc,this]
 have hbyte:∀j (h:j<l.length),((UInt8.ofNat (l[j]).toNat).toNat:Int)=l[j]:=λj hj=>by
  have:=Z23.1 hby l[j] (Z15 hj)
  simp only [Qcf,Z7,decide_eq_true_eq] at this
  simp only [UInt8.toNat_ofNat']
  omega
 have hlen:(l.map λn=>UInt8.ofNat n.toNat).length=l.length:=by simp
 have hrun:=Lib.run_unsafeString_row (P:=P) M.w t it ty e hu hce b cur.size hsh (l.map λn=>UInt8.ofNat n.toNat) (by intro h;rw [h] at hlen;simp at hlen;omega) (by rw [hlen];omega) (by rw [hlen];unfold maxLen at hmx;omega) (λj y hj=>by
  have hjl:j<l.length:=by
   rcases Z39 j l.length with h|h
   ·exact h
   ·rw [Z17 (by simpa using h)] at hj;simp at hj
  rw [Addr.add_lit,Z18]
  have h3:(l.map λn=>UInt8.ofNat n.toNat)[j]? = some (UInt8.ofNat (l[j]).toNat):=by simp [Z1 hjl]
  rw [h3] at hj;simp only [Zs] at hj;subst hj
  rw [hbyte j hjl]
  simp [World.cell?,hh,hget j hjl])
 rw [hlen] at hrun
 refine ⟨.blk b 0 cap,_,_,(by simpa using hrun),by simp,?_⟩
 have hg:=Qy9 M.w b l.length
 exact {
     μ:=hμ,own:=by rw [hk];rfl,w:=hg,dst:=λb' o' cap' e=>by cases e;exact ⟨Z16 (hB0 _ _ _ rfl).2 hg.size,.inr ⟨_,_,rfl⟩⟩,
     fix:=λh=>by simp [Blk.fix] at h,refs:=λ_ _ _ h=>by simp [contentB] at h,ver:=λ_ _ v h=>by simp [verB] at h}
include hC in
theorem Qth (o:Oper) {c:Call} (hop:o.op=.call c) (hM:M.ok) (hq:S.length<S'.length->M.μ S.length=none) (hρ:∀ty x,x∈o.op.operands->Rep M (a.eval x) (C.opv env ty x)) (hA:∀ty x,x∈o.op.operands->∀id∈refs1 (C.opv env ty x),M.S id=S.getD id .dead)
  (hinl:isInl C o env=false) (h:C.evOp I true o env S K0=some (v,S')) (hn:Next C o a M S env v S' next):o.wp P a M.w next Q:=by
 have hT:=hC.tab
 have hρ':∀ty x,x∈c.operands->Rep M (a.eval x) (C.opv env ty x):=λty x hx=>hρ ty x (by rw [hop];exact hx)
 have hA':∀ty x,x∈c.operands->∀id∈refs1 (C.opv env ty x),M.S id=S.getD id .dead:=λty x hx=>hA ty x (by rw [hop];exact hx)
 unfold Ctx.evOp at h
 simp only [hop] at h
 cases hcal:c.callee with
 |
  value f=>
  simp only [hcal] at h
  have hf:=hρ' 0 f (by simp [Call.operands,hcal])
  unfold Ctx.callV at h
  split at h
  case h_2=>simp at h
  rename_i g caps he
  have hng:C.inPl g=none:=by
   simp only [isInl,hop,hcal,he] at hinl
   simpa using hinl
  simp only [hng] at h
  rw [he] at hf
  obtain ⟨cvs,e1,hcl,hcr⟩:=Qau hf
  cases hclone:C.clone g with
  |
   some e=>
   simp only [hclone] at h
   split at h
   case h_2=>simp at h
   rename_i x hargs
   split at h
   case isFalse=>simp at h
   rename_i hcont
   change argV C env c=[x] at hargs
   obtain ⟨cx,e2,hx,hS⟩:=Qpj hρ' hA' hargs
   have hcv:cvs = #[]:=by simpa using hcl
   subst hcv
   have hq':=hq (Jv h)
   have hs:=hC.clone g e hng hclone M S.length _ _ _ hM hq' (Yx hM hS hx hcont) hcont
   rw [<-e2,<-Array.append_empty (xs:=c.args.map a.eval)] at hs
   have hlen:(C.clone g).isSome=true:=by rw [hclone];rfl
   have hW:opW C o env S=[S.length]:=by simp [opW,hop,hcal,he,hclone]
   simp only [K0,Zs,Z2] at h
   obtain ⟨rfl,rfl⟩:=h
   refine Qfu hop hcal e1 hs λcv w' ⟨loc,n,hn',hcv,hg,hdst,hb⟩=>?_
   subst hcv
   have hlv:lenV (unexact (immOf S x))=some n:=by
    rw [<-hn'];cases immOf S x<;>rfl
   exact hn _ (M.push S.length (.arr 0 true e (unexact (immOf S x))) loc w') [S.length] (Yl hlv (by cases loc<;>rfl)) (post_push hM hq' hg hdst (hb (push_step hM hq' hg hdst))) (by rw [hW];simp)
  |
   none=>
   simp only [hclone] at h
   split at h
   case h_2=>simp at h
   rename_i p hp
   split at h
   case isFalse=>simp at h
   rename_i hc
   simp only [Zn,Bool.false_or,Z7] at hc
   obtain ⟨hnr,himm⟩:=hc
   have hnr':(argV C env c++caps).all noRef=true:=hnr
   change C.call g ((argV C env c++caps).map (immDeep S))=some p at hp
   change ((argV C env c++caps).map (immDeep S)).all immV=true at himm
   change (p.m.bind λr=>K0 (p.enc r) (Wa S (argV C env c++caps)))=some (v,S') at h
   rw [Qlf hnr'] at hp himm
   rw [Qiy hnr'] at h
   simp only [Z5] at h
   obtain ⟨r,hr,hK⟩:=h
   simp only [K0,Zs,Z2] at hK
   obtain ⟨rfl,rfl⟩:=hK
   have hall:∀j (hj:j<(argV C env c++caps).length),Rep M ((c.args.map a.eval++cvs).getD j Go.undef) (argV C env c++caps)[j]:=by
    intro j hj
    by_cases h1:j<(argV C env c).length
    ·rw [Z27 h1]
     have:=Qba hρ' j h1
     rw [Wy] at h1
     simpa [Z0,Z51 (show j<(c.args.map a.eval).size by simpa using h1)] using this
    ·rw [Z37 (by omega)]
     have:=hcr (j-(argV C env c).length) (by simp at hj;omega)
     rw [Wy] at h1
     have e2:(c.args.map a.eval++cvs).getD j Go.undef=cvs.getD (j-(argV C env c).length) Go.undef:=by
      rw [Wy]
      simp only [Z0]
      rw [Array.getElem?_append_right (by simpa using h1)];simp
     rw [e2];exact this
   have hs:=hC.call g _ p hng hclone hp M.O M.w (c.args.map a.eval++cvs) r hr (by simp [Wy,hcl]) (λj hj=>Qah (hall j hj) (Z23.1 himm _ (Z15 hj))) hM.low
   exact Qfu hop hcal e1 hs λcv w' ⟨hg,hr0⟩=>hn cv {M with w:=w'} [] (.imm hr0) (post_world hM S hg) (by simp)
 |
  invoke r m=>
  simp only [hcal] at h
  have hr:=hρ' 0 r (by simp [Call.operands,hcal])
  unfold Ctx.invokeV at h
  split at h
  case h_2=>simp at h
  rename_i t v0 he
  rw [he] at hr
  obtain ⟨cv0,e1,hr0⟩:=Qut hr
  rw [show (List.map (λp=>C.opv env (c.argTypes.getD p.snd 0) p.fst) c.args.toList.zipIdx)=argV C env c from rfl] at h
  cases hm:C.meth t m with
  |none=>simp [hm] at h
  |some g=>
  simp only [hm] at h
  cases hng:C.inPl g with
  |some _=>simp [hng] at h
  |none=>
  simp only [hng] at h
  cases hclone:C.clone g with
  |some _=>simp [hclone] at h
  |none=>
  simp only [hclone] at h
  cases hp:C.call g (v0::argV C env c) with
  |none=>simp [hp] at h
  |some p=>
  simp only [hp] at h
  split at h
  case isFalse=>simp at h
  rename_i himm
  simp only [Z5] at h
  obtain ⟨r0,hr0',hK⟩:=h
  simp only [K0,Zs,Z2] at hK
  obtain ⟨rfl,rfl⟩:=hK
  have hs:=hC.call g _ p hng hclone hp M.O M.w (#[cv0]++c.args.map a.eval) r0 hr0' (by simp [Wy];omega) (λj hj=>by
   cases j with
   |zero=>simpa [Z0,Array.getElem?_append] using hr0
   |
    succ j=>
    have hj':j<(argV C env c).length:=by simpa using hj
    have:=Qah (Qba hρ' j hj') (by
     have:=Z23.1 himm _ (List.mem_cons_of_mem _ (Z15 hj'))
     exact this)
    simpa [Z0,Array.getElem?_append_right (show (#[cv0]:Array Value).size<=j+1 by simp)] using this) hM.low
  exact Qzc hop hcal e1 (hC.meth t m g hm) hs λcv w' ⟨hg,hr0⟩=>hn cv {M with w:=w'} [] (.imm hr0) (post_world hM S hg) (by simp)
 |
  builtin b=>
  simp only [hcal] at h
  have hrun:∃cs,(execOp a.eval o).run P M.w=(builtin b c.argTypes o.type cs (c.args.map a.eval)).run P M.w:=by
   simp only [execOp,hop,resolve,hcal,invoke,Sem.run_bind,Sem.run_pure,Result.andThen_ok]
   exact ⟨_,rfl⟩
  obtain ⟨cs,hrun⟩:=hrun
  rw [show (List.map (λp=>C.opv env (c.argTypes.getD p.snd 0) p.fst) c.args.toList.zipIdx)=argV C env c from rfl] at h
  have two:=λ{x y:V} (h:argV C env c=[x,y])=>Qm0 hρ' hA' h
  have onev:=λ{x:V} (h:argV C env c=[x])=>Qpj hρ' hA' h
  have htypes:∀{l:List TypeId},c.argTypes.toList=l->c.argTypes=l.toArray:=λ{l} hl=>by rw [<-hl]
  split at h
  ·rename_i t x ht hargs
   obtain ⟨cx,e1,hx,hS⟩:=onev hargs
   have ht':=htypes ht
   split at h
   ·rename_i s hd
    obtain ⟨s',rfl,rfl⟩:=Ye hx
    refine Qt hM hn ?_ h (.imm (.int _ _))
    rw [hrun,e1,ht']
    have:=run_len_string (P:=P) M.w t o.type s' (Yq hT hd)
    have hsz:s'.size=s'.data.toList.length:=by rw [Z31];rfl
    simp only [builtin,Sem.run_bind,this,Result.andThen_ok,Sem.run_pure,goInt,hsz]
   ·rename_i e hd
    split at h
    case h_2=>simp at h
    rename_i n hl
    obtain ⟨A,cap,rfl⟩:=Qk2 hM (by rw [Qh8];exact hS) hl (Qqr hx)
    refine Qt hM hn ?_ h (.imm (.int _ _))
    rw [hrun,e1,ht']
    have hu:=(Q9 hT hd).1
    have hel:P.elem t=e:=by simp [Program.elem,hu]
    have:=run_len_slice (P:=P) M.w t o.type A n cap (by rw [hel];exact hu)
    simp only [builtin,Sem.run_bind,this,Result.andThen_ok,Sem.run_pure,goInt]
   ·simp at h
  ·rename_i t u x y ht hargs
   by_cases hkd:C.keepD o.dst=true
   ·simp only [hkd,Zd] at h
    split at h
    case h_2=>simp at h
    rename_i e hd
    split at h
    ·simp at h
    ·obtain ⟨cx,cy,e1,hx,hy,hSx,hSy⟩:=two hargs
     have ht':=htypes ht
     obtain ⟨cv,v',M',S'',hrun',hK,hr,hp⟩:=Qve hT hM hSx hSy h hx hy (Q9 hT hd).1 (ty:=o.type)
     refine Wo hn ?_ hK hr hp (λi hi=>?_)
     ·rw [hrun,e1,ht']
      simp only [builtin,Sem.run_bind,hrun',Result.andThen_ok,Sem.run_pure]
     ·have hW:opW C o env S=(argV C env c).flatMap refs1++[S.length]:=by simp [opW,hop,hcal,argV]
      rw [hW,hargs]
      simp only [Z93,Z50]
      exact .inl (.inl hi)
    obtain ⟨cx,cy,e1,hx,hy,hSx,hSy⟩:=two hargs
    have ht':=htypes ht
    obtain ⟨cv,v',M',hrun',hK,hr,hp⟩:=Qvb hT hM hSy h hx hy (Q9 hT hd).1 (ty:=o.type)
    refine Wo hn ?_ hK hr hp (by simp)
    rw [hrun,e1,ht']
    simp only [builtin,Sem.run_bind,hrun',Result.andThen_ok,Sem.run_pure]
   have hkd:C.keepD o.dst=false:=by simpa using hkd
   simp only [hkd,Zc] at h
   obtain ⟨cx,cy,e1,hx,hy,hSx,hSy⟩:=two hargs
   have ht':=htypes ht
   have hx:=Qqr hx
   have hrx:=Qh8 x
   rw [<-hrx] at hSx
   have hrun2:∃cv v' M' S'' wr,(Builtin.append_ #[t,u] o.type #[cx,cy]).run P M.w=.ok cv M'.w/\K0 v' S''=some (v,S')/\Rep M' cv v'/\Post M M' S S'' wr/\wr ⊆ refs1 (J7 x)++[S.length]:=by
    split at h
    ·rename_i e hd
     by_cases hlen:S.length<S'.length
     ·exact Qjq hT hM (λ_=>hq hlen) hSx hSy h hx hy (Q9 hT hd).1 (ty:=o.type)
     ·have h':C.appendV t S (J7 x) y (λu s=>if s.length<=S.length then some (u,s) else none)=some (v,S'):=by
       rw [Qj1,h];simp only [Bd,Zb];rw [if_pos (by omega)]
      obtain ⟨cv,v',M',S'',wr,a1,a2,a3,a4,a5⟩:=Qjq hT hM (λ⟨u,s,r',hlt,hr'⟩=>by rw [if_neg (by omega)] at hr';simp at hr') hSx hSy h' hx hy (Q9 hT hd).1 (ty:=o.type)
      refine ⟨cv,v',M',S'',wr,a1,?_,a3,a4,a5⟩
      split at a2
      ·exact a2
      ·simp at a2
    ·rename_i hd
     split at h
     case h_2=>simp at h
     rename_i s
     by_cases hlen:S.length<S'.length
     ·exact Qp7 hT hM (λ_=>hq hlen) hSx h hx hy (Yq hT hd) (ty:=o.type)
     ·have h':C.appendV t S (J7 x) (Qc2 s) (λu s=>if s.length<=S.length then some (u,s) else none)=some (v,S'):=by
       rw [Qj1,h];simp only [Bd,Zb];rw [if_pos (by omega)]
      obtain ⟨cv,v',M',S'',wr,a1,a2,a3,a4,a5⟩:=Qp7 hT hM (λ⟨u,s,r',hlt,hr'⟩=>by rw [if_neg (by omega)] at hr';simp at hr') hSx h' hx hy (Yq hT hd) (ty:=o.type)
      refine ⟨cv,v',M',S'',wr,a1,?_,a3,a4,a5⟩
      split at a2
      ·exact a2
      ·simp at a2
    ·simp at h
   obtain ⟨cv,v',M',S'',wr,hrun',hK,hr,hp,hw⟩:=hrun2
   refine Wo hn ?_ hK hr hp (λi hi=>?_)
   ·rw [hrun,e1,ht']
    simp only [builtin,Sem.run_bind,hrun',Result.andThen_ok,Sem.run_pure]
   ·have hW:opW C o env S=(argV C env c).flatMap refs1++[S.length]:=by simp [opW,hop,hcal,argV]
    rw [hW,hargs]
    have:=hw hi
    rw [hrx] at this
    simp only [Z50,Z93] at this ⊢
    rcases this with h1|h1
    ·exact .inl (.inl h1)
    ·exact .inr h1
  ·rename_i x y hargs
   obtain ⟨cx,cy,e1,hx,hy,_,_⟩:=two hargs
   unfold maxV at h
   split at h
   case h_2=>simp at h
   obtain rfl:=Qp hx;obtain rfl:=Qp hy
   refine Qt hM hn ?_ h (.imm (.int _ _))
   rw [hrun,e1]
   simp only [builtin,Sem.run_bind,run_max_int2,Result.andThen_ok,Sem.run_pure]
  ·rename_i x y hargs
   obtain ⟨cx,cy,e1,hx,hy,_,_⟩:=two hargs
   unfold minV at h
   split at h
   case h_2=>simp at h
   obtain rfl:=Qp hx;obtain rfl:=Qp hy
   refine Qt hM hn ?_ h (.imm (.int _ _))
   rw [hrun,e1]
   simp only [builtin,Sem.run_bind,run_min_int2,Result.andThen_ok,Sem.run_pure]
  ·rename_i t u x y ht hargs
   obtain ⟨cx,cy,e1,hx,hy,hSx,hSy⟩:=two hargs
   have ht':=htypes ht
   obtain ⟨k,M',S'',hrun',hK,hp⟩:=Qt3 hT hM (tx:=u) (ty:=o.type) hSx hSy h hx hy
   refine Wo hn ?_ hK (.imm (.int _ _)) hp (λi hi=>?_)
   ·rw [hrun,e1,ht']
    simp only [builtin,Sem.run_bind,hrun',Result.andThen_ok,Sem.run_pure]
   ·have hW:opW C o env S=(argV C env c).flatMap refs1:=by simp [opW,hop,hcal,argV]
    rw [hW,hargs]
    simp only [Z93,Z50]
    exact .inl hi
  ·rename_i t x ht hargs
   obtain ⟨cx,e1,hx,hS⟩:=onev hargs
   have ht':=htypes ht
   obtain ⟨M',S'',hrun',hK,hp⟩:=Qyv hT hM (ty:=o.type) hS h hx
   refine Wo hn ?_ hK (.imm (.tup #[] [] rfl λj hj=>absurd hj (by simp))) hp (λi hi=>?_)
   ·rw [hrun,e1,ht']
    simp only [builtin,Sem.run_bind,hrun',Result.andThen_ok,Sem.run_pure]
   ·have hW:opW C o env S=(argV C env c).flatMap refs1:=by simp [opW,hop,hcal,argV]
    rw [hW,hargs]
    simpa using hi
  ·rename_i t x ht hargs
   obtain ⟨cx,e1,hx,hS⟩:=onev hargs
   split at h
   case h_3=>simp at h
   case h_2=>
    obtain rfl:=Qmt hx
    refine Qt hM hn ?_ h (.imm .nilp)
    rw [hrun,e1]
    simp only [builtin,Sem.run_bind,Lib.run_unsafeSliceData_nil,Result.andThen_ok,Sem.run_pure]
   rename_i bid ver
   split at h
   case h_2=>simp at h
   rename_i ver' g e cont hk
   split at h
   case isFalse=>simp at h
   rename_i hc
   subst hc
   split at h
   case h_2=>simp at h
   rename_i n0 hl0
   split at h
   case isFalse=>simp at h
   rename_i hc
   obtain ⟨cv,hrun',hr⟩:=Qtq (P:=P) hM ((hS bid (by simp [refs1])).trans hk) hl0 hc hx c.argTypes o.type
   refine Qt hM hn ?_ h hr
   rw [hrun,e1]
   simp only [builtin,Sem.run_bind,hrun',Result.andThen_ok,Sem.run_pure]
  ·rename_i t u x y ht hargs
   obtain ⟨cx,cy,e1,hx,hy,hSx,hSy⟩:=two hargs
   clear hSy
   have ht':=htypes ht
   split at h
   case h_3=>simp at h
   case h_2=>
    rename_i n
    split at h
    case isFalse=>simp at h
    rename_i hn0
    subst hn0
    obtain rfl:=Qcw hx
    obtain rfl:=Qp hy
    refine Qt hM hn ?_ h (.imm (.str ByteArray.empty [] rfl))
    rw [hrun,e1,ht']
    simp only [builtin,Sem.run_bind,Lib.run_unsafeString_none,Result.andThen_ok,Sem.run_pure]
   rename_i bid ver n
   split at h
   case h_2=>simp at h
   rename_i e ver' e' xx l hd hk
   split at h
   case isFalse=>simp at h
   rename_i hc
   obtain ⟨rfl,rfl,hb,hs⟩:=hc
   split at h
   case isFalse=>simp at h
   rename_i hc
   obtain ⟨rfl,hl,hby⟩:=hc
   obtain rfl:=Qp hy
   obtain ⟨loc,s,w',hrun',hsd,hW⟩:=Qys hT hM hd hb hs ((hSx bid (by simp [refs1])).trans hk) hl hby hx u o.type
   have hlt:=Wk hk (by simp)
   have hW0:opW C o env S=(argV C env c).flatMap refs1:=by simp [opW,hop,hcal,argV]
   refine Wo hn ?_ h (.imm (.str _ _ hsd)) (post_write hM hW trivial hlt) (by rw [hW0,hargs];simp [refs1])
   rw [hrun,e1,ht']
   simp only [builtin,Sem.run_bind,hrun',Result.andThen_ok,Sem.run_pure,Mem.push]
  ·simp at h
end
variable {R:Type}
theorem Qcx (C:Ctx) (t:Nat) (v:V) (K:V->Option R):C.cast t v K=(C.cast t v some).bind K:=by
 unfold Ctx.cast V.asInt V.asBool V.asStr V.asInts V.asStrs V.asRecs
 repeat' split
 all_goals first|rfl|simp
theorem Qch (C:Ctx):∀(ts:List Nat) (vs:List V) (i:Nat) {R:Type} (K:List V->Option R),C.castAll ts vs i K=(C.castAll ts vs i some).bind K
 |[],vs,i,R,K=>rfl
 |
  t::ts,vs,i,R,K=>by
  simp only [Ctx.castAll]
  rw [Qcx,Qcx C t _ (λv=>C.castAll ts vs (i+1) λr=>some (v::r))]
  cases C.cast t (vs.getD i .undef) some with
  |none=>rfl
  |
   some v=>
   simp only [Zb]
   rw [Qch C ts vs (i+1) (λr=>K (v::r)),Qch C ts vs (i+1) (λr=>some (v::r))]
   cases C.castAll ts vs (i+1) some<;>rfl
theorem Qb1 (C:Ctx) (t:Nat) (S:Store) (x:V) (K:V->Option R):C.loadV t S x K=(C.loadV t S x some).bind K:=by
 unfold Ctx.loadV
 repeat' split
 all_goals first|rfl|skip
 ·rw [Qch,Qch C _ _ _ (λcs=>some (V.agg cs))]
  cases C.castAll _ _ _ some<;>rfl
 ·exact Qcx C _ _ _
theorem Qiz (C:Ctx) (t:Nat) (S:Store) (x v:V) (K:Store->Option R):C.storeV t S x v K=(C.storeV t S x v some).bind K:=by
 unfold Ctx.storeV
 repeat' split
 all_goals rfl
theorem Qg3 (C:Ctx) (op:BinOp) (t:Nat) (S:Store) (x y:V) (K:V->Option R):C.binOpV op t S x y K=(C.binOpV op t S x y some).bind K:=by
 unfold Ctx.binOpV
 repeat' split
 all_goals rfl
theorem Qjm (C:Ctx) (t:Nat) (S:Store) (x y:V) (K:V->Option R):C.indexAddrV t S x y K=(C.indexAddrV t S x y some).bind K:=by
 unfold Ctx.indexAddrV
 repeat' split
 all_goals first|rfl|skip
 rw [Qch,Qch C _ _ _ (λcs=>some (V.cptr cs))]
 cases C.castAll _ _ _ some<;>rfl
theorem Qj3 (C:Ctx) (t:Nat) (S:Store) (x:V) (lo hi mx:Option V) (K:V->Option R):C.sliceV t S x lo hi mx K=(C.sliceV t S x lo hi mx some).bind K:=by
 unfold Ctx.sliceV Qfz Qfw Qen
 repeat' split
 all_goals rfl
theorem Qgv (C:Ctx) (t:Nat) (S:Store) (x:V) (lo hi:Option V) (K:V->Option R):C.sliceArr t S x lo hi K=(C.sliceArr t S x lo hi some).bind K:=by
 unfold Ctx.sliceArr
 repeat' split
 all_goals rfl
theorem Qul (C:Ctx) (src dst:Nat) (S:Store) (x:V) (K:V->Store->Option R):C.convertV src dst S x K=Bd (C.convertV src dst S x K0) K:=by
 unfold Ctx.convertV
 repeat' split
 all_goals rfl
theorem Qu3 (C:Ctx) (t:Nat) (S:Store) (n:Int) (K:V->Store->Option R):C.makeSliceV t S n K=Bd (C.makeSliceV t S n K0) K:=by
 unfold Ctx.makeSliceV
 repeat' split
 all_goals rfl
theorem Qwr (C:Ctx) (I:Inl R) (I':Inl (V×Store)) (b:Bool) (f:V) (args:List V) (S:Store) (K:V->Store->Option R) (h:∀g caps,f=.func g caps->C.inPl g=none):C.callV I b f args S K=Bd (C.callV I' b f args S K0) K:=by
 unfold Ctx.callV
 cases f<;>try rfl
 rename_i g caps
 simp only [h g caps rfl]
 repeat' split
 all_goals first|rfl|skip
 rename_i p _ _
 cases p.m<;>rfl
theorem Qwq (C:Ctx) (I:Inl R) (I':Inl (V×Store)) (b:Bool) (o:Oper) (env:Env) (S:Store) (K:V->Store->Option R) (h:isInl C o env=false):C.evOp I b o env S K=Bd (C.evOp I' b o env S K0) K:=by
 obtain ⟨dst,op,type,pos,after,guard⟩:=o
 unfold Ctx.evOp
 cases op<;>simp only
 case load t a=>rw [Qb1,Qb1 C _ _ _ (λv=>K0 v S)];cases C.loadV t S (C.opv env 0 a) some<;>rfl
 case store t a x=>rw [Qiz,Qiz C _ _ _ _ (λS'=>K0 _ S')];cases C.storeV t S (C.opv env 0 a) (C.opv env t x) some<;>rfl
 case binOp op t x y z=>rw [Qg3,Qg3 C _ _ _ _ _ (λv=>K0 v S)];cases C.binOpV op t S (C.opv env t x) (C.opv env t y) some<;>rfl
 case convert src d x=>exact Qul ..
 case build t parts=>
  cases C.ownD dst<;>simp only [Zd,Zc]<;>(repeat' split)<;>rfl
 case buildSlice t len parts=>
  cases C.ownD dst<;>simp only [Zd,Zc]<;>(repeat' split)<;>rfl
 case indexAddr t x ix=>rw [Qjm,Qjm C _ _ _ _ (λv=>K0 v S)];cases C.indexAddrV t S (C.opv env t x) (C.opv env 0 ix) some<;>rfl
 case call c=>
  split
  ·rename_i f hf
   refine Qwr C I I' b _ _ S K (λg caps he=>?_)
   simp only [isInl,hf,he] at h
   simpa using h
  ·split
   all_goals first|rfl|skip
   ·repeat' split
    all_goals rfl
   ·cases C.keepD dst<;>cases b<;>simp only [Zd,Zc]<;>(repeat' split)
    all_goals first|rfl|exact Qj1 .. | exact Qrv .. | exact Qzp .. | exact Qyw ..
   ·unfold maxV;split<;>rfl
   ·unfold minV;split<;>rfl
   ·exact Quw ..
   ·exact Qzg ..
   ·repeat' split
    all_goals rfl
   ·repeat' split
    all_goals rfl
  ·unfold Ctx.invokeV
   repeat' split
   all_goals first|rfl|skip
   rename_i p _ _
   cases p.m<;>rfl
 case pick c x y=>
  repeat' split
  all_goals first|rfl|(rename_i c _ _ _ _;cases c<;>rfl)|(rename_i c _ _ _;cases c<;>rfl)|skip
 case slice t x lo hi mx=>
  split
  ·split
   ·rw [Qgv,Qgv C _ _ _ _ _ (λv=>K0 v S)];cases C.sliceArr t S (C.opv env 0 x) (lo.map (C.opv env 0)) (hi.map (C.opv env 0)) some<;>rfl
   ·rfl
  ·rw [Qj3,Qj3 C _ _ _ _ _ _ (λv=>K0 v S)];cases C.sliceV t S (C.opv env t x) (lo.map (C.opv env 0)) (hi.map (C.opv env 0)) (mx.map (C.opv env 0)) some<;>rfl
 case makeSlice t l c=>
  split
  ·split
   ·exact Qu3 ..
   ·rfl
  ·rfl
 case index t x ix=>
  repeat' split
  all_goals first|rfl|skip
  rename_i e _ _ _
  rw [Qcx,Qcx C _ _ (λv=>K0 v S)]
  cases C.cast _ _ some<;>rfl
 case next it b=>cases b<;>simp only<;>(repeat' split)<;>rfl
 all_goals first|rfl|((repeat' split)<;>rfl)|skip
def Mem.freeze (M:Mem) (id ver:Nat) (c:V):Mem:=
 {M with O:=λb=>M.O b/\¬∃o cap,M.μ id=some (.blk b o cap),S:=upd M.S id (.imm ver c)}
theorem Qfo {M:Mem} (hM:M.ok) {id ver:Nat} {g:Bool} {e:Nat} {c:V} (hk:M.S id=.arr ver g e c):Step M (M.freeze id ver c) where
 size:=Z4 _
 os:=rfl
 tape:=rfl
 output:=rfl
 keep b hb hn:=⟨rfl,⟨λh=>h.1,λh=>⟨h,λ⟨o,cap,he⟩=>hn ⟨id,o,cap,by rw [hk];rfl,he⟩⟩⟩⟩
 osub b hb h:=h.1
 own' b hb h:=by
  obtain ⟨i,o,cap,h1,h2⟩:=h
  by_cases ei:i=id
  ·subst ei
   rw [show (M.freeze i ver c).S i=.imm ver c from upd_same] at h1
   simp [Blk.own] at h1
  ·rw [show (M.freeze id ver c).S i=M.S i from upd_ne ei] at h1
   exact ⟨i,o,cap,h1,h2⟩
 refs cv v hr:=by
  obtain ⟨h1,h2⟩:=hr
  refine ⟨h1,?_⟩
  have other:∀i,i≠id->(M.freeze id ver c).S i=M.S i:=λi hi=>upd_ne hi
  have same:(M.freeze id ver c).S id=.imm ver c:=upd_same
  have hc:∀ver',contentB (.imm ver c) ver'=contentB (M.S id) ver':=λver'=>by rw [hk];rfl
  have hv:∀ver',verLe (M.S id) ver'->verLe (.imm ver c) ver':=λver' h=>by rw [hk] at h;exact h
  cases v<;>simp only [Mem.Ref1] at h2 ⊢
  ·rename_i i off
   refine ⟨h2.1,λhf=>?_⟩
   by_cases ei:i=id
   ·subst ei;rw [same] at hf;simp [Blk.fix] at hf
   ·rw [other i ei] at hf;exact h2.2 hf
  ·rename_i i ver' ix off
   obtain ⟨⟨hs,hvl⟩,h2⟩:=h2
   by_cases ei:i=id
   ·subst ei;rw [same];exact ⟨⟨hs,hv _ hvl⟩,λc' h=>h2 c' (by rw [<-hc];exact h)⟩
   ·rw [other i ei];exact ⟨⟨hs,hvl⟩,h2⟩
  ·rename_i i ver'
   obtain ⟨⟨hs,hvl⟩,h2⟩:=h2
   by_cases ei:i=id
   ·subst ei;rw [same];exact ⟨⟨hs,hv _ hvl⟩,λc' h=>h2 c' (by rw [<-hc];exact h)⟩
   ·rw [other i ei];exact ⟨⟨hs,hvl⟩,h2⟩
  ·rename_i i ver' lo n
   obtain ⟨⟨hs,hvl⟩,h2⟩:=h2
   by_cases ei:i=id
   ·subst ei;rw [same];exact ⟨⟨hs,hv _ hvl⟩,λc' h=>h2 c' (by rw [<-hc];exact h)⟩
   ·rw [other i ei];exact ⟨⟨hs,hvl⟩,h2⟩
theorem Qki {M:Mem} (hM:M.ok) {id ver:Nat} {g:Bool} {e:Nat} {c:V} (hk:M.S id=.arr ver g e c):(M.freeze id ver c).ok where
 blk i l h:=by
  have h:M.μ i=some l:=h
  by_cases ei:i=id
  ·subst ei
   rw [show (M.freeze i ver c).S i=.imm ver c from upd_same]
   have hB:=hM.blk i l h
   rw [hk] at hB
   obtain ⟨_,hB⟩:=hB
   have hx:∀v:V,isExact (unexact v)=false:=λv=>by cases v<;>rfl
   have hfu:∀v:V,flatV (unexact v)=flatV v:=λv=>by cases v<;>rfl
   cases l with
   |
    nil a=>
    refine ⟨0,(Qj hB.2).2,.slice a 0 0 (unexact c) [] (λ_=>Go.undef) (by rw [hfu];exact hB.2) (λ_=>rfl) (Z4 _) (λ_=>rfl) (λj hj=>by simp at hj) (λj hj=>by simp at hj) (λj hj=>by simp at hj)⟩
   |
    blk b o cap=>
    obtain ⟨n,fl,cur,fz,a1,rfl,a3,a4,a5,a6,a7,a8,a9,a10⟩:=hB
    have hl:=Qj a1
    refine ⟨n,hl.2,.slice (some ⟨b,0,none⟩) n cap (unexact c) fl (λj=>cur.getD j Go.undef) (by rw [hfu];exact a1) (λhh=>by rw [hx] at hh;simp at hh) a3 (by simp) (λj hj=>⟨_,rfl,λho=>ho.2 ⟨0,cap,h⟩,?_⟩) (λj hj=>(a10 j hj).2) (λj hj=>(Qfo hM hk).rep0 hM (a10 j hj).1)⟩
    have:j<cur.size:=by rw [a6];exact Z16 (by omega) (Z3 _ a3)
    show M.w.cell? _=_
    rw [Addr.add_lit,Z18]
    simp [World.cell?,a5,Z0,this]
  ·rw [show (M.freeze id ver c).S i=M.S i from upd_ne ei]
   refine Qb4 hM (Qfo hM hk) (hM.blk i l h) (λho b o cap he=>⟨rfl,?_⟩)
   subst he
   exact ⟨hM.own ⟨i,o,cap,ho,h⟩,λ⟨o',cap',h'⟩=>ei (hM.inj i id _ _ _ _ _ ho (by rw [hk];rfl) h h')⟩
 inj i i' b o o' cap cap' h1 h2 h3 h4:=by
  have key:∀j,((M.freeze id ver c).S j).own=true->j≠id/\(M.S j).own=true:=λj hj=>by
   by_cases ej:j=id
   ·subst ej;rw [show (M.freeze j ver c).S j=.imm ver c from upd_same] at hj;simp [Blk.own] at hj
   ·rw [show (M.freeze id ver c).S j=M.S j from upd_ne ej] at hj;exact ⟨ej,hj⟩
  exact hM.inj i i' b o o' cap cap' (key i h1).2 (key i' h2).2 h3 h4
 low b h:=hM.low b h.1
def Mem.is (M:Mem) (S:Store):Prop:=∀id,M.S id=S.getD id .dead
theorem Qdk {S S':Store} (h:∀id ver,contentOf S' id ver=contentOf S id ver) (v:V):immOf S' v=immOf S v:=by
 cases v<;>simp only [immOf,h]
structure Yg (M M':Mem) (S S':Store):Prop where
 step:Step M M'
 ok:M'.ok
 is:M'.is S'
 w:M'.w=M.w
 μ:M'.μ=M.μ
 len:S'.length=S.length
 content:∀id ver,contentOf S' id ver=contentOf S id ver
theorem Yg.refl {M:Mem} (hM:M.ok) {S:Store} (hi:M.is S):Yg M M S S:=⟨.refl M,hM,hi,rfl,rfl,rfl,λ_ _=>rfl⟩
theorem Yg.trans {M M' M'':Mem} {S S' S'':Store} (h:Yg M M' S S') (h':Yg M' M'' S' S''):Yg M M'' S S'':=
 ⟨h.step.trans h'.step,h'.ok,h'.is,h'.w.trans h.w,h'.μ.trans h.μ,h'.len.trans h.len,λid ver=>(h'.content id ver).trans (h.content id ver)⟩
theorem Qtt {M:Mem} (hM:M.ok) {S:Store} (hi:M.is S) (v:V):∃M',Yg M M' S (freezeOne S v):=by
 have key:∀i,∃M',Yg M M' S (match S.getD i .dead with | .arr ver _ _ c=>S.set i (.imm ver c)|_=>S):=by
  intro i
  split
  ·rename_i ver g e c hk
   have hk':=(hi i).trans hk
   refine ⟨M.freeze i ver c,Qfo hM hk',Qki hM hk',λid=>?_,rfl,rfl,by simp,λid ver'=>?_⟩
   ·rw [getD_set_store (Wk hk (by simp))]
    split
    ·rename_i h;subst h;exact upd_same
    ·rename_i h;exact (upd_ne h).trans (hi id)
   ·unfold contentOf
    rw [getD_set_store (Wk hk (by simp))]
    split
    ·rename_i h;subst h;rw [hk];rfl
    ·rfl
  ·exact ⟨M,.refl hM hi⟩
 cases v<;>first|exact ⟨M,.refl hM hi⟩|exact key _
theorem Qqm {M:Mem} (hM:M.ok):∀(cs:List V) {S:Store} {M:Mem},M.ok->M.is S->∃M',Yg M M' S (Qb6 S cs)
 |[],S,M,hM,hi=>⟨M,.refl hM hi⟩
 |
  v::vs,S,M,hM,hi=>by
  obtain ⟨M1,h1⟩:=Qtt hM hi v
  obtain ⟨M2,h2⟩:=Qqm hM vs h1.ok h1.is
  exact ⟨M2,h1.trans h2⟩
theorem Qcb:∀(cs:List V) {S:Store} {M:Mem},M.ok->M.is S->∃M',Yg M M' S (Wa S cs)
 |[],S,M,hM,hi=>⟨M,.refl hM hi⟩
 |
  v::vs,S,M,hM,hi=>by
  obtain ⟨M1,h1⟩:=Qqm hM (cellsOf v) hM hi
  obtain ⟨M2,h2⟩:=Qcb vs h1.ok h1.is
  exact ⟨M2,h1.trans h2⟩
def still (S:Store):V->Prop
 |.sref id _ | .sview id _ _ _=>∀ver g e c,S.getD id .dead≠.arr ver g e c
 |_=>True
theorem freezeOne_arr {S:Store} {v:V} {i ver:Nat} {g:Bool} {e:Nat} {c:V} (h:(freezeOne S v).getD i .dead=.arr ver g e c):S.getD i .dead=.arr ver g e c:=by
 have key:∀j,(match S.getD j .dead with | .arr ver _ _ c=>S.set j (.imm ver c)|_=>S).getD i .dead=.arr ver g e c->S.getD i .dead=.arr ver g e c:=by
  intro j h
  split at h
  ·rename_i hk
   rw [getD_set_store (Wk hk (by simp))] at h
   split at h
   ·simp at h
   ·exact h
  ·exact h
 cases v<;>first|exact h|exact key _ h
theorem Qvu {S:Store} {u v:V} (h:still S u):still (freezeOne S v) u:=by
 cases u<;>simp only [still] at h ⊢<;>(intro ver g e c hk;exact h ver g e c (freezeOne_arr hk))
theorem Qvr {S:Store} {v:V}:still (freezeOne S v) v:=by
 have key:∀i ver g e c,(match S.getD i .dead with | .arr ver _ _ c=>S.set i (.imm ver c)|_=>S).getD i .dead≠.arr ver g e c:=by
  intro i ver g e c h
  split at h
  ·rename_i hk
   rw [getD_set_store (Wk hk (by simp)),if_pos rfl] at h
   simp at h
  ·rename_i hk;exact hk _ _ _ _ h
 cases v<;>simp only [still,freezeOne]<;>exact key _
theorem Qi1:∀(cs:List V) {S:Store} {u:V},still S u\/u∈cs->still (Qb6 S cs) u
 |[],S,u,h=>h.elim id (λh=>by simp at h)
 |
  v::vs,S,u,h=>by
  refine Qi1 vs ?_
  rcases h with h|h
  ·exact .inl (Qvu h)
  ·rcases Z103.1 h with rfl|h
   ·exact .inl Qvr
   ·exact .inr h
theorem Qcd:∀(vs:List V) {S:Store} {u:V},(still S u\/∃v∈vs,u∈cellsOf v)->still (Wa S vs) u
 |[],S,u,h=>h.elim id (λ⟨v,h,_⟩=>by simp at h)
 |
  v::vs,S,u,h=>by
  refine Qcd vs ?_
  rcases h with h|⟨w,hw,hu⟩
  ·exact .inl (Qi1 _ (.inl h))
  ·rcases Z103.1 hw with rfl|hw
   ·exact .inl (Qi1 _ (.inr hu))
   ·exact .inr ⟨w,hw,hu⟩
theorem Qtb {S:Store} {id ver:Nat} {c:V} (h:contentOf S id ver=some c) (hc:contentVal c=true):immOf S (.sref id ver)=unexact c:=by
 simp only [immOf,h]
 cases c<;>simp [contentVal] at hc<;>rfl
theorem Qjs {M:Mem} (hM:M.ok) {S:Store} (hi:M.is S) {cv:Value} {v:V} (hr:Rep M cv v) (hs:still S v):Rep M cv (immOf S v):=by
 cases v<;>try exact hr
 ·rename_i id ver
  cases hc:contentOf S id ver with
  |none=>simp only [immOf,hc];exact .imm (.undef _)
  |
   some c=>
   have hc':contentB (M.S id) ver=some c:=by rw [hi id];exact hc
   have hblk:∃ver',M.S id=.imm ver' c:=by
    unfold contentB at hc'
    split at hc'
    ·rename_i h;rw [hi id] at h;exact (hs _ _ _ _ h).elim
    ·rename_i ver' c2 h
     split at hc'
     ·simp only [Zs] at hc';subst hc';exact ⟨ver',h⟩
     ·simp at hc'
    ·simp at hc'
   obtain ⟨ver',hk⟩:=hblk
   obtain ⟨_,_,hp⟩:=W0 hr
   obtain ⟨loc,n,hμ,hn,rfl⟩:=hp c hc'
   have hB:=hM.blk id loc hμ
   rw [hk] at hB
   obtain ⟨n',hn',hB⟩:=hB
   rw [hn] at hn';simp only [Zs] at hn';subst hn'
   have hcv:contentVal c=true:=by cases c<;>simp [lenV] at hn<;>rfl
   rw [Qtb hc hcv]
   exact .imm hB
 ·rename_i id ver lo k
  cases hc:contentOf S id ver with
  |none=>simp only [immOf,hc];exact .imm (.undef _)
  |
   some c=>
   have hc':contentB (M.S id) ver=some c:=by rw [hi id];exact hc
   have hblk:∃ver',M.S id=.imm ver' c:=by
    unfold contentB at hc'
    split at hc'
    ·rename_i h;rw [hi id] at h;exact (hs _ _ _ _ h).elim
    ·rename_i ver' c2 h
     split at hc'
     ·simp only [Zs] at hc';subst hc';exact ⟨ver',h⟩
     ·simp at hc'
    ·simp at hc'
   obtain ⟨ver',hk⟩:=hblk
   obtain ⟨_,_,hp⟩:=W7 hr
   obtain ⟨loc,m,a,cap',hμ,hm,hle,hnc,rfl,hna,hpos,_⟩:=hp c hc'
   have hB:=hM.blk id loc hμ
   rw [hk] at hB
   obtain ⟨n',hn',hB⟩:=hB
   rw [hm] at hn';simp only [Zs] at hn';subst hn'
   have hcv:contentVal (unexact c)=true:=by cases c<;>simp [lenV] at hm<;>rfl
   obtain ⟨A,n2,cap2,fl,cf,he,hf,_,hle2,hA,hcell,hone,hrr⟩:=Wx (M:=M) hcv (.imm hB)
   have hf':flatV c=some (n2,fl):=by rw [<-hf];cases c<;>rfl
   have hl:=Qj hf'
   have hn2:n2=m:=by have:=hl.2;rw [hm] at this;simpa using this.symm
   subst hn2
   simp only [immOf,hc]
   have hex:isExact (subV lo k c)=false:=by cases c<;>simp [lenV] at hm<;>rfl
   refine .imm (Qj9 (A:=A) hl.1 hle hcell hone hrr (Qng hf' hle) hnc (λh=>by rw [hex] at h;simp at h) (λh=>(hna h).1) (λhk=>?_))
   obtain ⟨b,o,cap3,rfl,rfl⟩:=hpos hk
   simp only [Q0,Value.slice.injEq] at he
   rw [<-he.1,Option.map_some,Addr.add_lit]
theorem Qem {M:Mem} (hM:M.ok) {S:Store} (hi:M.is S) {cv:Value} {v:V} (hr:Rep M cv v) (hs:∀u∈cellsOf v,still S u):Rep M cv (immDeep S v):=by
 by_cases ha:∃cs,v=.agg cs
 ·obtain ⟨cs,rfl⟩:=ha
  obtain ⟨cvs,rfl,hl,ho,hrr⟩:=Wp hr
  simp only [immDeep]
  refine .agg cvs _ (by simpa using hl) (λj hj=>ho j (by simpa using hj)) (λj hj=>?_)
  rw [Z20]
  exact Qjs hM hi (hrr j (by simpa using hj)) (hs _ (Z15 _))
 ·have e1:immDeep S v=immOf S v:=by cases v<;>first|rfl|exact absurd ⟨_,rfl⟩ ha
  have e2:cellsOf v=[v]:=by cases v<;>first|rfl|exact absurd ⟨_,rfl⟩ ha
  rw [e1]
  exact Qjs hM hi hr (hs v (by rw [e2];simp))
structure Now (M:Mem) (S:Store):Prop where
 ok:M.ok
 is:M.is S
 fresh:∀id,S.length<=id->M.μ id=none
theorem Post.now {M M':Mem} {S S':Store} {wr:List Nat} (h:Now M S) (hp:Post M M' S S' wr):Now M' S' where
 ok:=hp.ok
 is id:=by
  by_cases hw:id∈wr
  ·exact hp.wrS id hw
  ·rw [hp.keepM id hw,hp.keepS id hw];exact h.is id
 fresh id hid:=by
  have hl:=hp.len
  by_cases e:id=S.length
  ·subst e
   cases hμ:M'.μ S.length with
   |none=>rfl
   |
    some l=>
    have:=hp.μ' (by rw [hμ];rfl)
    rcases this with h1|h1
    ·rw [h.fresh _ (Z4 _)] at h1;simp at h1
    ·omega
  ·have:=hp.μ id e
   rw [h.fresh id (by omega)] at this
   simpa using this
theorem Yg.now {M M':Mem} {S S':Store} (h:Now M S) (hf:Yg M M' S S'):Now M' S':=
 ⟨hf.ok,hf.is,λid hid=>by rw [hf.μ];exact h.fresh id (by rw [<-hf.len];exact hid)⟩
section
variable {P:Program} {C:Ctx} (hC:Wc P C) {a:Act} {M:Mem} {S:Store} {env:Env} {v:V} {S':Store} {next:Act->World->Prop} {Q:Exit->Act->World->Prop} {I:Inl (V×Store)}
def Qie (a:Act) (M:Mem) (S:Store) (dst:Option Nat) (v:V) (S':Store) (next:Act->World->Prop):Prop:=
 ∀cv M',Step M M'->Now M' S'->Rep M' cv v->S.length<=S'.length->next (a.put dst cv) M'.w
theorem Qrm (hT:C.T.check P=true) (hN:Now M S) {t tx:Nat} {x y:V} {cx cy:Value} (h:C.appendK t S x y K0=some (v,S')) (hx:Rep M cx x) (hy:Rep M cy y) {e' ty:TypeId} (hk:P.underlying tx=some (.slice e')) :
  ∃cv M',(Builtin.append_ #[t,tx] ty #[cx,cy]).run P M.w=.ok cv M'.w/\Step M M'/\Now M' S'/\Rep M' cv v/\S'.length=S.length:=by
 have hM:=hN.ok
 unfold Ctx.appendK at h
 split at h
 case h_2=>simp at h
 rename_i e hd
 by_cases hb:C.bad e=true
 ·rw [if_pos hb] at h;simp at h
 rw [if_neg hb] at h
 have hb:C.bad e=false:=by simpa using hb
 split at h
 case h_2=>simp at h
 rename_i n m hn hm
 split at h
 case isTrue=>simp at h
 rename_i hb0
 split at h
 case isFalse=>simp at h
 rename_i hby
 have hu:=(Q9 hT hd).1
 obtain ⟨j,z,hj,hs,hbs,hz,h2,h3,h4⟩:=Y8 hT hb
 split at h
 case h_2=>simp at h
 rename_i id ver
 split at h
 case h_2=>simp at h
 rename_i ver' e2 c hk0
 split at h
 case isFalse=>simp at h
 rename_i hc
 obtain ⟨rfl,rfl,hzc⟩:=hc
 split at h
 case h_2=>simp at h
 rename_i c' happ
 simp only [K0,Zs,Z2] at h
 obtain ⟨rfl,rfl⟩:=h
 obtain ⟨_,hsx,hp⟩:=W0 hx
 have hk1:=(hN.is id).trans hk0
 have hlt:=Wk hk0 (by simp)
 have hcc:contentB (M.S id) ver'=some c:=by rw [hk1];simp [contentB]
 obtain ⟨loc,n0,hμ,hn0,rfl⟩:=hp c hcc
 have hn1:n0=n:=by
  simp only [lenOf,contentOf,hk0,contentB,if_true] at hn
  rw [hn0] at hn;simpa using hn
 subst hn1
 have hcv:contentVal (immOf S y)=true:=by
  unfold Wn at happ
  split at happ<;>first|(simp at happ;done)|(rename_i h1;rw [h1];rfl)
 obtain ⟨m',fl',news,hfy,hzy,hsrc,hnw,hr'⟩:=Qf4 (Yx hM (λid _=>hN.is id) hy hcv) hk
 have hmm:m'=m:=by
  have hl:=(Qj hfy).2
  cases y<;>try (simp [lenOf,immOf] at hm hl;first|(rw [hl] at hm;simpa using hm)|(simp [lenV] at hm;done))
  ·simp only [lenOf] at hm
   split at hm
   ·rename_i c hcc
    simp only [immOf,hcc] at hl
    cases c<;>simp [lenV] at hm hl<;>omega
   ·simp at hm
  ·rename_i id ver lo k
   simp only [lenOf] at hm
   split at hm
   ·rename_i c hcc
    simp only [Zs] at hm;subst hm
    obtain ⟨_,_,hp⟩:=W7 hy
    obtain ⟨_,m0,_,_,_,hm0,hle,_⟩:=hp c (by rw [hN.is id];exact hcc)
    simp only [immOf,hcc] at hl
    cases c<;>simp [lenV,subV] at hm0 hl<;>omega
   ·simp at hm
 subst hmm
 have hmx:n0+m'<=140737488355328:=Z11 (by
  calc n0+m'=(n0+m')*1:=by omega
   _<=(n0+m')*(C.ty e2).bytes:=Z43 _ (by omega)) hby
 have hB:=hM.blk id _ hμ
 rw [hk1] at hB
 obtain ⟨hB0,hB⟩:=hB
 have hfc:∃fl,flatV c=some (n0,fl):=by
  cases loc with
  |
   nil a=>
   have:=hB.2
   have h9:=(Qj this).2
   rw [hn0] at h9;simp only [Zs] at h9;subst h9
   exact ⟨_,this⟩
  |
   blk b o cap=>
   obtain ⟨n2,fl,_,_,hf,_⟩:=hB
   have h9:=(Qj hf).2
   rw [hn0] at h9;simp only [Zs] at h9;subst h9
   exact ⟨_,hf⟩
 obtain ⟨fl,hfc⟩:=hfc
 obtain ⟨hf',hz',hzy',_,_⟩:=Qa3 happ hfc hfy
 have hl1:=Qj hfc;have hl2:=Qj hfy
 have hsrc:Src P j.size tx cy m' news M.w:=by rw [hs,<-hzc,<-hzy'];exact hsrc
 have hnl:fl'.length=m'*(C.ty e2).size:=by rw [hl2.1,hzy',hzc]
 have hol:fl.length=n0*(C.ty e2).size:=by rw [hl1.1,hzc]
 have hfu:∀v:V,flatV (unexact v)=flatV v:=λv=>by cases v<;>rfl
 have hxu:∀v:V,isExact (unexact v)=false:=λv=>by cases v<;>rfl
 have wk:∀{w':World},M.w.grownBy w' none->M.w.grownBy w' (rowOf loc):=λhw=>⟨hw.os,hw.tape,hw.output,hw.size,λk hk _=>hw.block k hk (by simp)⟩
 have fin:∀{base:Option Addr} {cap':Nat} {w':World} {cf:Nat->Value},(Builtin.append_ #[t,tx] ty #[Q0 loc n0,cy]).run P M.w=.ok (.slice base (n0+m') cap') w'->M.w.grownBy w' (rowOf loc) ->
   (Step M (M.push id (.arr ver' true e2 c) loc w')->BlkOK (M.push id (.arr ver' true e2 c) loc w') loc (.arr ver' true e2 c))->n0+m'<=cap'->(base=none->cap'=0) ->
   (∀j,j<(fl++fl').length->∃a,base=some a/\(M.w.heap.size<=a.block\/∃o cap,loc=.blk a.block o cap)/\w'.cell? (a.add j)=some (cf j))->(∀j (h:j<(fl++fl').length),Rep0 M.O M.w (cf j) (fl++fl')[j]/\(cf j).oneCell'=true) ->
   ∃cv M',(Builtin.append_ #[t,tx] ty #[Q0 loc n0,cy]).run P M.w=.ok cv M'.w/\Step M M'/\Now M' (S.set id (.imm ver' c))/\Rep M' cv (unexact c')/\(S.set id (.imm ver' c)).length=S.length:=λ{base cap' w' cf} hrun hg hb1 hle hbn hcell hcf=>by
  have hW:Wq M id loc loc (.arr ver' true e2 c) w':=
   {
    μ:=hμ,own:=by rw [hk1];rfl,w:=hg,dst:=λb o cap he=>⟨Z16 (hB0 b o cap he).2 hg.size,.inr ⟨o,cap,he⟩⟩,fix:=λh=>by simp [Blk.fix] at h,
    refs:=λver'' c'' hle hc=>⟨rfl,c'',by rw [hk1];exact hc,rfl,rfl⟩,ver:=λver'' hv=>by rw [hk1] at hv;exact hv}
  have st1:=write_step hM hW
  have ok1:=Qp6 hM hW (hb1 st1)
  have hk2:(M.push id (.arr ver' true e2 c) loc w').S id=.arr ver' true e2 c:=upd_same
  have st2:=Qfo ok1 hk2
  have ok2:=Qki ok1 hk2
  have hμ2:(M.push id (.arr ver' true e2 c) loc w').μ id=some loc:=upd_same
  refine ⟨_,(M.push id (.arr ver' true e2 c) loc w').freeze id ver' c,hrun,st1.trans st2,⟨ok2,λi=>?_,λi hi=>?_⟩,.imm (.slice base (n0+m') cap' (unexact c') (fl++fl') cf (by rw [hfu];exact hf') (λhh=>by rw [hxu] at hh;simp at hh) hle hbn (λj hj=>?_) (λj hj=>(hcf j hj).2) (λj hj=>(st1.trans st2).rep0 hM (hcf j hj).1)),by simp⟩
  ·rw [getD_set_store hlt]
   split
   ·rename_i he;subst he;exact upd_same
   ·rename_i he;exact (upd_ne he).trans ((upd_ne he).trans (hN.is i))
  ·rw [Z21] at hi
   exact (upd_ne (by omega)).trans (hN.fresh i hi)
  ·obtain ⟨a,ha,hloc,hce⟩:=hcell j hj
   refine ⟨a,ha,λho=>?_,hce⟩
   obtain ⟨ho1,ho2⟩:=ho
   rcases hloc with h9|⟨o,cap,h9⟩
   ·rcases ho1 with h8|⟨o,cap,h8⟩
    ·have:=hM.low _ h8;omega
    ·have:=(hB0 _ _ _ h8).2;omega
   ·exact ho2 ⟨o,cap,by rw [hμ2,h9]⟩
 have same:∀{w':World},M.w.grownBy w' none->Step M (M.push id (.arr ver' true e2 c) loc w')->BlkOK (M.push id (.arr ver' true e2 c) loc w') loc (.arr ver' true e2 c):=λ{w'} hg hst=>by
  have hB1:=hM.blk id _ hμ
  rw [hk1] at hB1
  exact Qb4 hM hst hB1 λ_ b o cap he=>⟨hg.block b (hB0 b o cap he).2 (by simp),.inr ⟨o,cap,he⟩⟩
 have grow:∀{base:Option Addr} {sCap:Nat} {olds:List Value},Q0 loc n0=.slice base n0 sCap ->
   (Builtin.firstCells j.size n0 (.slice base n0 sCap)).run P M.w.drew=.ok olds.toArray M.w.drew->sCap<n0+m'->olds.length=fl.length ->
   (∀j (h:j<fl.length),Rep0 M.O M.w (olds.getD j Go.undef) fl[j]/\(olds.getD j Go.undef).oneCell'=true) ->
   ∃cv M',(Builtin.append_ #[t,tx] ty #[Q0 loc n0,cy]).run P M.w=.ok cv M'.w/\Step M M'/\Now M' (S.set id (.imm ver' c))/\Rep M' cv (unexact c')/\(S.set id (.imm ver' c)).length=S.length:=λ{base sCap olds} hcx hold hg ho h5=>by
  have hrun:=run_append_grow_src (P:=P) M.w t tx ty e2 j z hu hj hz base n0 sCap olds hold cy m' news hsrc hg (by omega) (growslice_fits hg (by rw [hbs];exact hby))
  rw [<-hcx] at hrun
  have hget:=Qdc (M:=M) (z:=z.cells) (k:=grownCap M.w (n0+m') sCap e2-(n0+m')) ho hnw h5 hr'
  have hsz:∀i,i<(fl++fl').length->i<((olds++news).toArray++Builtin.zeroCells z.cells (grownCap M.w (n0+m') sCap e2-(n0+m'))).size:=λi hi=>by
   rw [Z10] at hi
   simp only [Array.size_append,List.size_toArray,Z10];omega
  generalize (olds++news).toArray++Builtin.zeroCells z.cells (grownCap M.w (n0+m') sCap e2-(n0+m'))=cur at *
  refine fin hrun (wk (Qgc _ _)) (same (Qgc _ _)) (grownCap_ge _ _ _ _) (λh=>by simp at h) (λi hi=>⟨_,rfl,.inl (Z4 _),?_⟩) hget
  rw [Addr.add_lit,Z18]
  have hw:M.w.drew.heap.size=M.w.heap.size:=rfl
  have hh:(M.w.drew.alloc (.cells cur e2)).heap[M.w.heap.size]? = some (.cells cur e2 (0,0)):=by
   simp only [World.alloc,Z32,hw,if_true]
  have:=hsz i hi
  simp only [World.cell?,hh]
  simp [Z0,this]
 by_cases hm0:m'=0
 ·subst hm0
  have hnews:news=[]:=Z6 (by rw [hnw,hnl];simp)
  have hfl':fl'=[]:=Z6 (by rw [hnl];simp)
  subst hnews hfl'
  have hg0:M.w.grownBy M.w none:=⟨rfl,rfl,rfl,Z4 _,λ_ _ _=>rfl⟩
  cases loc with
  |
   nil a=>
   have h9:=Qj hB.2
   rw [hn0] at h9
   have h10:=h9.2;simp only [Zs] at h10;subst h10
   have hfl0:fl=[]:=Z6 (by rw [hol];simp)
   subst hfl0
   exact fin (base:=a) (cap':=0) (w':=M.w) (cf:=λ_=>Go.undef) (run_append_nothing M.w t tx ty e2 j hu hj a 0 0 (Z4 _) cy hsrc) (wk hg0) (same hg0) (Z4 _) (λ_=>rfl) (λi hi=>by simp at hi) (λi hi=>by simp at hi)
  |
   blk b o cap=>
   obtain ⟨n2,fl2,cur,fz,hf2,rfl,a3,a4,a5,a6,a7,a8,a9,a10⟩:=hB
   rw [hfc] at hf2;simp only [Zs,Z2] at hf2;obtain ⟨rfl,rfl⟩:=hf2
   have hcl:fl.length<=cur.size:=by rw [hl1.1,a6];exact Z3 _ a3
   refine fin (base:=some ⟨b,0,none⟩) (cap':=cap) (w':=M.w) (cf:=λi=>cur.getD i Go.undef) (run_append_nothing M.w t tx ty e2 j hu hj _ n0 cap a3 cy hsrc) (wk hg0) (same hg0) a3 (λh=>by simp at h) (λi hi=>⟨_,rfl,.inr ⟨0,cap,rfl⟩,?_⟩) (λi hi=>?_)
   ·rw [Z45] at hi
    have:i<cur.size:=by omega
    rw [Addr.add_lit,Z18]
    simp [World.cell?,a5,Z0,this]
   ·have hi2:i<fl.length:=by rw [Z45] at hi;exact hi
    rw [Z27 hi2];exact a10 i hi2
 ·cases loc with
  |
   nil a=>
   have h9:=Qj hB.2
   rw [hn0] at h9
   have h10:=h9.2;simp only [Zs] at h10;subst h10
   have hfl0:fl=[]:=Z6 (by rw [hol];simp)
   subst hfl0
   exact grow (base:=a) (sCap:=0) (olds:=[]) rfl (by
    cases a with
    |none=>exact run_firstCells_none _ _ _ _ _
    |some a=>exact run_firstCells_some _ _ _ a 0 0 [] (by simp) (λj v h=>by simp at h)) (by omega) rfl (λj h=>by simp at h)
  |
   blk b o cap=>
   have hBk:=hB
   obtain ⟨n2,fl2,cur,fz,hf2,rfl,a3,a4,a5,a6,a7,a8,a9,a10⟩:=hB
   rw [hfc] at hf2;simp only [Zs,Z2] at hf2;obtain ⟨rfl,rfl⟩:=hf2
   have hcl:fl.length<=cur.size:=by rw [hl1.1,a6];exact Z3 _ a3
   by_cases hroom:n0+m'<=cap
   ·have hfit:n0*j.size+news.length<=cur.size:=by
     rw [hs,hnw,hnl,a6,hzc,<-Z19];exact Z3 _ hroom
    have hfz:=a7 rfl
    subst hfz
    have hrun:=run_append_room_src (P:=P) M.w t tx ty e2 j hu hj b 0 n0 cap cy m' news hsrc hroom (λi hi=>by
     have:n0*j.size+i<cur.size:=by omega
     simp [World.cell?,a5,this]) (λi hi=>by simp [World.frozen?,a5])
    rw [Z18] at hrun
    have hnj:n0*j.size=fl.length:=by rw [hol,hs]
    have hheap:=setCells_heap b news (n0*j.size) M.w a5
    refine fin (base:=some ⟨b,0,none⟩) (cap':=cap) (cf:=λi=>(arrSet cur (n0*j.size) news).getD i Go.undef) hrun (setCells_grown _ _ _ _) (λhst=>?_) hroom (λh=>by simp at h) (λi hi=>⟨_,rfl,.inr ⟨0,cap,rfl⟩,?_⟩) (λi hi=>?_)
    ·refine ⟨λ_ _ _ he=>by cases he;exact ⟨.inr ⟨0,cap,rfl⟩,Z16 (hB0 _ _ _ rfl).2 (setCells_grown _ _ _ _).size⟩,n0,fl,arrSet cur (n0*j.size) news,(0,0),hfc,rfl,a3,a4,hheap,by rw [arrSet_size,a6],λ_=>rfl,λh=>by simp at h,λi hi=>?_,λi hi=>?_⟩
     ·show (M.w.setCells b (n0*j.size) news).frozen? _=false
      rw [World.frozen?_setCells];simp [World.frozen?,a5]
     ·rw [Qdt news cur _ i hfit,if_neg (by omega)]
      exact ⟨hst.rep0 hM (a10 i hi).1,(a10 i hi).2⟩
    ·have:i<(arrSet cur (n0*j.size) news).size:=by
      rw [arrSet_size];rw [Z10] at hi;omega
     rw [Addr.add_lit,Z18]
     simp [World.cell?,hheap,Z0,this]
    ·rw [Qdt news cur _ i hfit]
     by_cases hi2:i<fl.length
     ·rw [if_neg (by omega),Z27 hi2]
      exact a10 i hi2
     ·have hi3:i-fl.length<fl'.length:=by simp at hi;omega
      have e9:i-n0*j.size=i-fl.length:=by rw [hnj]
      rw [if_pos (by omega),e9,Z37 (by omega)]
      exact hr' _ hi3
   ·have hcl':cur.toList.length=cur.size:=Z31
    have hget:∀i,i<fl.length->(cur.toList.take fl.length).getD i Go.undef=cur.getD i Go.undef:=λi hi=>by
     simp [Zl,Z0,Z78,hi]
    exact grow (base:=some ⟨b,0,none⟩) (sCap:=cap) (olds:=cur.toList.take fl.length) rfl
     (run_firstCells_some _ _ _ ⟨b,0,none⟩ n0 cap _ (by rw [Z8,hcl',hs,<-hol];omega) (λi v hv=>by
      rw [Addr.add_lit,Z18]
      rw [Z78] at hv
      split at hv
      ·have h5':M.w.drew.heap[b]? = some (.cells cur e2 fz):=a5
       simp only [World.cell?,h5']
       simpa using hv
      ·simp at hv)) (by omega) (by rw [Z8,hcl'];omega) (λi hi=>by rw [hget i hi];exact a10 i hi)
include hC in
theorem Qmd (o:Oper) (hM:M.ok) (hq:S.length<S'.length->M.μ S.length=none) (hρ:∀ty x,x∈o.op.operands->Rep M (a.eval x) (C.opv env ty x)) (hA:∀ty x,x∈o.op.operands->isMv o.op=false->∀id∈refs1 (C.opv env ty x),M.S id=S.getD id .dead)
  (hinl:isInl C o env=false) (h:C.evOp I true o env S K0=some (v,S')) (hn:Next C o a M S env v S' next):o.wp P a M.w next Q:=by
 by_cases hc:∃c,o.op=.call c
 ·obtain ⟨c,hop⟩:=hc
  exact Qth hC o hop hM hq hρ (λty x hx=>hA ty x hx (by rw [hop];rfl)) hinl h hn
 ·exact Qso hC o hM hq hρ hA (λc e=>hc ⟨c,e⟩) h hn
include hC in
theorem Qse (o:Oper) (hN:Now M S) (he:Qy M a.tmps env) (hinl:isInl C o env=false) (h:C.evOp I false o env S K0=some (v,S')) (hn:Qie a M S o.dst v S' next):o.wp P a M.w next Q:=by
 have hρ:∀ty x,Rep M (a.eval x) (C.opv env ty x):=λty x=>Qhy C he ty x
 have plain:C.evOp I true o env S K0=some (v,S')->o.wp P a M.w next Q:=λh'=>
  Qmd hC o hN.ok (λ_=>hN.fresh _ (Z4 _)) (λty x _=>hρ ty x) (λ_ _ _ _ id _=>hN.is id) hinl h' λcv M' wr hr hp _=>hn cv M' hp.step (hp.now hN) hr hp.len
 obtain ⟨dst,op,type,pos,after,guard⟩:=o
 cases op<;>try exact plain h
 case next it b=>cases b<;>exact plain h
 case buildSlice t len parts=>
  simp only [Ctx.evOp] at h
  split at h
  ·rename_i hnr
   refine plain ?_
   simp only [Ctx.evOp]
   rw [if_pos hnr];exact h
  ·simp only [Z25,if_false] at h
   split at h
   case h_2=>simp at h
   rename_i w hw
   obtain ⟨M1,hf⟩:=Qcb (parts.toList.map λp=>C.opv env (C.partType t p.1) p.2) hN.ok hN.is
   have hN1:=hf.now hN
   have hst:∀u,(∃x∈(parts.toList.map λp=>C.opv env (C.partType t p.1) p.2),u∈cellsOf x)->still (Wa S (parts.toList.map λp=>C.opv env (C.partType t p.1) p.2)) u:=λu hu=>Qcd _ (.inr hu)
   obtain ⟨cv,w',hrun,hg,hr,_⟩:=Qi5 (M:=M1) hC.tab hN1.ok (qs:=parts.map λ(i,x)=>(i,a.eval x)) hw (by simp) (λj hj hj'=>by
    have hjp:j<parts.toList.length:=by simpa using hj
    refine ⟨by simp,?_⟩
    have h1:=hf.step.rep hN.ok (hρ (C.partType t (parts.toList[j]).1) (parts.toList[j]).2)
    have h2:=Qem hN1.ok hN1.is h1 (λu hu=>hst u ⟨_,List.mem_map_of_mem (Z15 hjp),hu⟩)
    have h3:immDeep (Wa S (parts.toList.map λp=>C.opv env (C.partType t p.1) p.2)) (C.opv env (C.partType t (parts.toList[j]).1) (parts.toList[j]).2)=immDeep S (C.opv env (C.partType t (parts.toList[j]).1) (parts.toList[j]).2):=by
     have hh:=Qdk hf.content
     unfold immDeep
     split
     ·congr 1;exact Z108 λu _=>hh u
     ·exact hh _
    rw [h3] at h2
    simpa using h2)
   simp only [K0,Zs,Z2] at h
   obtain ⟨rfl,rfl⟩:=h
   have hp:=post_world hN1.ok (Wa S (parts.toList.map λp=>C.opv env (C.partType t p.1) p.2)) hg
   refine Yn (w':=w') ?_ (hn cv {M1 with w:=w'} (hf.step.trans hp.step) (hp.now hN1) (.imm hr) (by rw [hf.len];exact Z4 _))
   rw [hf.w] at hrun
   simp only [execOp,Sem.run_bind,hrun,Result.andThen_ok,Sem.run_pure]
 case call c=>
  cases hcal:c.callee with
  |invoke r m=>refine plain ?_;simp only [Ctx.evOp,hcal] at h ⊢;exact h
  |
   builtin b=>
   by_cases hkp:C.keepD dst=true
   ·by_cases hb:b=.append
    ·subst hb
     simp only [Ctx.evOp,hcal] at h
     split at h
     all_goals first|contradiction|skip
     ·rename_i t u x y hbb ht hargs
      simp only [hkp,Zd] at h
      split at h
      case h_2=>simp at h
      rename_i e hd
      split at h
      case h_2=>
       refine plain ?_
       simp only [Ctx.evOp,hcal]
       rw [ht,hargs]
       simp only [hkp,Zd,hd]
       exact h
      case h_3=>
       rename_i hns
       refine plain ?_
       simp only [Ctx.evOp,hcal]
       rw [ht,hargs]
       simp only [hkp,Zd,hd]
       exact h
      simp only [Zc] at h
      obtain ⟨cx,cy,e1,hx,hy,_,_⟩:=Qm0 (a:=a) (M:=M) (S:=S) (λty x _=>hρ ty x) (λ_ _ _ id _=>hN.is id) hargs
      obtain ⟨cv,M',hrun,hs,hn',hr,hl⟩:=Qrm hC.tab hN h hx hy (Q9 hC.tab hd).1 (ty:=type)
      refine Yn (w':=M'.w) ?_ (hn cv M' hs hn' hr (by omega))
      have ht':c.argTypes = #[t,u]:=by rw [<-Array.toList_inj];exact ht
      simp only [execOp,resolve,hcal,invoke,builtin,e1,ht',Sem.run_bind,Sem.run_pure,Result.andThen_ok,hrun]
    ·refine plain ?_
     simp only [Ctx.evOp,hcal] at h ⊢
     cases b<;>first|(exact (hb rfl).elim)|skip
     all_goals
      split at h
      all_goals first
       |contradiction
       |(simp at h;done)
       |exact h
   ·refine plain ?_
    have hkp':C.keepD dst=false:=by simpa using hkp
    simp only [Ctx.evOp,hcal,hkp'] at h ⊢
    exact h
  |
   value f=>
   simp only [Ctx.evOp,hcal] at h
   unfold Ctx.callV at h
   split at h
   case h_2=>simp at h
   rename_i g caps hfv
   have hng:C.inPl g=none:=by
    simp only [isInl,hcal,hfv] at hinl
    simpa using hinl
   simp only [hng] at h
   cases hclone:C.clone g with
   |
    some e=>
    refine plain ?_
    simp only [Ctx.evOp,hcal]
    unfold Ctx.callV
    simp only [hfv,hng,hclone] at h ⊢;exact h
   |
    none=>
    simp only [hclone] at h
    split at h
    case h_2=>simp at h
    rename_i p hp
    split at h
    case isFalse=>simp at h
    rename_i hc
    simp only [Zo,Bool.true_or,Z81] at hc
    change ((argV C env c++caps).map (immDeep S)).all immV=true at hc
    change C.call g ((argV C env c++caps).map (immDeep S))=some p at hp
    change (p.m.bind λr=>K0 (p.enc r) (Wa S (argV C env c++caps)))=some (v,S') at h
    simp only [Z5] at h
    obtain ⟨r,hr,hK⟩:=h
    simp only [K0,Zs,Z2] at hK
    obtain ⟨rfl,rfl⟩:=hK
    have hf:=hρ 0 f
    rw [hfv] at hf
    obtain ⟨cvs,e1,hcl,hcr⟩:=Qau hf
    have hall:∀j (hj:j<(argV C env c++caps).length),Rep M ((c.args.map a.eval++cvs).getD j Go.undef) (argV C env c++caps)[j]:=by
     intro j hj
     by_cases h1:j<(argV C env c).length
     ·rw [Z27 h1]
      have:=Qba (λty x _=>hρ ty x) j h1
      rw [Wy] at h1
      simpa [Z0,Z51 (show j<(c.args.map a.eval).size by simpa using h1)] using this
     ·rw [Z37 (by omega)]
      have:=hcr (j-(argV C env c).length) (by simp at hj;omega)
      rw [Wy] at h1
      have e2:(c.args.map a.eval++cvs).getD j Go.undef=cvs.getD (j-(argV C env c).length) Go.undef:=by
       rw [Wy]
       simp only [Z0]
       rw [Array.getElem?_append_right (by simpa using h1)];simp
      rw [e2];exact this
    obtain ⟨M1,hfz⟩:=Qcb (argV C env c++caps) hN.ok hN.is
    have hN1:=hfz.now hN
    have hs:=hC.call g _ p hng hclone hp M1.O M1.w (c.args.map a.eval++cvs) r hr (by simp [Wy,hcl]) (λj hj=>by
     have hj':j<(argV C env c++caps).length:=by simpa using hj
     have h1:=hfz.step.rep hN.ok (hall j hj')
     have h2:=Qem hN1.ok hN1.is h1 (λu hu=>Qcd _ (.inr ⟨_,Z15 hj',hu⟩))
     have h3:immDeep (Wa S (argV C env c++caps)) (argV C env c++caps)[j]=immDeep S (argV C env c++caps)[j]:=by
      have hh:=Qdk hfz.content
      unfold immDeep
      split
      ·congr 1;exact Z108 λu _=>hh u
      ·exact hh _
     rw [h3] at h2
     rw [Z20]
     exact Qah h2 (by
      have:=Z23.1 hc _ (Z15 hj)
      rwa [Z20] at this)) hN1.ok.low
    rw [hfz.w] at hs
    refine Qfu (o:=⟨dst,.call c,type,pos,after,guard⟩) rfl hcal e1 hs λcv w' ⟨hg,hr0⟩=>?_
    have hg':M1.w.grownBy w' none:=by rw [hfz.w];exact hg
    have hp:=post_world hN1.ok (Wa S (argV C env c++caps)) hg'
    exact hn cv {M1 with w:=w'} (hfz.step.trans hp.step) (hp.now hN1) (.imm hr0) (by rw [hfz.len];exact Z4 _)
end
abbrev InlP:=∀R:Type,Inl R
structure InlOK (P:Program) (C:Ctx) (I:InlP):Prop where
 nat:∀(R:Type) (f:Nat) (args:List V) (S:Store) (K:V->Store->Option R),I R f args S K=Bd (I (V×Store) f args S K0) K
 sound:∀(f:Nat) (args:List V) (S:Store) (v:V) (S':Store) (M:Mem) (cargs:Array Value),I (V×Store) f args S K0=some (v,S')->Now M S->cargs.size=args.length ->
  (∀j (h:j<args.length),Rep M (cargs.getD j Go.undef) args[j])->CallR P f cargs M.w λcv w'=>∃M':Mem,M'.w=w'/\Step M M'/\Now M' S'/\Rep M' cv v/\S.length<=S'.length
section
variable {P:Program} {C:Ctx} {a:Act} {M:Mem} {S:Store} {env:Env} {v:V} {S':Store} {next:Act->World->Prop} {Q:Exit->Act->World->Prop} {I:InlP}
theorem Qn9 {o:Oper} (h:isInl C o env=true):∃c f g caps,o.op=.call c/\c.callee=.value f/\C.opv env 0 f=.func g caps/\(C.inPl g).isSome=true:=by
 unfold isInl at h
 split at h
 case h_2=>simp at h
 rename_i c hop
 split at h
 case h_2=>simp at h
 rename_i f hcal
 split at h
 case h_2=>simp at h
 rename_i g caps hfv
 exact ⟨c,f,g,caps,hop,hcal,hfv,h⟩
theorem Qhm {R:Type} {I:Inl R} {b:Bool} {o:Oper} {c:Call} {f:Operand} {g:Nat} {caps:List V} (hop:o.op=.call c) (hcal:c.callee=.value f) (hfv:C.opv env 0 f=.func g caps) (hg:(C.inPl g).isSome=true) (K:V->Store->Option R) :
  C.evOp I b o env S K=I g (argV C env c++caps) S K:=by
 obtain ⟨fn,hfn⟩:=Z69.1 hg
 unfold Ctx.evOp
 simp only [hop,hcal]
 unfold Ctx.callV
 simp only [hfv,hfn]
 rfl
theorem Qt0 {c:Call} (hρ:∀ty x,x∈c.operands->Rep M (a.eval x) (C.opv env ty x)) {cvs:Array Value} {caps:List V} (hcr:∀j (h:j<caps.length),Rep M (cvs.getD j Go.undef) caps[j]) :
  ∀j (hj:j<(argV C env c++caps).length),Rep M ((c.args.map a.eval++cvs).getD j Go.undef) (argV C env c++caps)[j]:=by
 intro j hj
 by_cases h1:j<(argV C env c).length
 ·rw [Z27 h1]
  have:=Qba hρ j h1
  rw [Wy] at h1
  simpa [Z0,Z51 (show j<(c.args.map a.eval).size by simpa using h1)] using this
 ·rw [Z37 (by omega)]
  have:=hcr (j-(argV C env c).length) (by simp at hj;omega)
  rw [Wy] at h1
  have e2:(c.args.map a.eval++cvs).getD j Go.undef=cvs.getD (j-(argV C env c).length) Go.undef:=by
   rw [Wy]
   simp only [Z0]
   rw [Array.getElem?_append_right (by simpa using h1)];simp
  rw [e2];exact this
theorem Qbt (hI:InlOK P C I) {R:Type} (b:Bool) (o:Oper) (env:Env) (S:Store) (K:V->Store->Option R):C.evOp (I R) b o env S K=Bd (C.evOp (I _) b o env S K0) K:=by
 cases h:isInl C o env with
 |false=>exact Qwq C (I R) (I _) b o env S K h
 |
  true=>
  obtain ⟨c,f,g,caps,hop,hcal,hfv,hg⟩:=Qn9 h
  rw [Qhm hop hcal hfv hg,Qhm hop hcal hfv hg]
  exact hI.nat R g _ S K
theorem Qkx (hI:InlOK P C I) (b:Bool) (o:Oper) (hN:Now M S) (he:∀ty x,x∈o.op.operands->Rep M (a.eval x) (C.opv env ty x)) (hinl:isInl C o env=true) (h:C.evOp (I _) b o env S K0=some (v,S')) (hn:Qie a M S o.dst v S' next):o.wp P a M.w next Q:=by
 obtain ⟨c,f,g,caps,hop,hcal,hfv,hg⟩:=Qn9 hinl
 rw [Qhm hop hcal hfv hg] at h
 have hρ:∀ty x,x∈c.operands->Rep M (a.eval x) (C.opv env ty x):=λty x hx=>he ty x (by rw [hop];exact hx)
 have hf:=hρ 0 f (by simp [Call.operands,hcal])
 rw [hfv] at hf
 obtain ⟨cvs,e1,hcl,hcr⟩:=Qau hf
 have hs:=hI.sound g _ S v S' M (c.args.map a.eval++cvs) h hN (by simp [Wy,hcl]) (Qt0 hρ hcr)
 exact Qfu hop hcal e1 hs λcv w' ⟨M',hw,hst,hN',hr,hl⟩=>by subst hw;exact hn cv M' hst hN' hr hl
theorem Qsi (hC:Wc P C) (hI:InlOK P C I) (o:Oper) (hN:Now M S) (he:Qy M a.tmps env) (h:C.evOp (I _) false o env S K0=some (v,S')) (hn:Qie a M S o.dst v S' next):o.wp P a M.w next Q:=by
 cases hinl:isInl C o env with
 |false=>exact Qse hC o hN he hinl h hn
 |true=>exact Qkx hI false o hN (λty x _=>Qhy C he ty x) hinl h hn
theorem Qkm {env:Env} {g:Nat} {v:V} (h:env.getD g .undef=v) (hv:v≠.undef):env.set g v=env:=by
 have hg:g<env.length:=by
  by_cases hg:g<env.length
  ·exact hg
  ·rw [Zl,Z17 (by omega)] at h
   exact (hv h.symm).elim
 rw [Zl,Z1 hg] at h
 simp only [Z52] at h
 rw [<-h];exact List.set_getElem_self hg
theorem Qcv (a:Act) (dst:Option Tmp) (v:Value):(a.put dst v).defers=a.defers:=by cases dst<;>rfl
theorem Qyq {ops:Array Oper} {j g:Nat} (hg:guardSlot ops j=some g) {tmps:Array Value} {b:Bool} (h:tmps.getD g Go.undef=.bool b):yielded ops tmps j=some b:=by
 have h':tmps[g]? = some (.bool b):=by
  rw [Z0] at h
  cases ht:tmps[g]? with
  |none=>rw [ht] at h;simp [Go.undef] at h
  |some x=>rw [ht] at h;simpa using h
 unfold yielded
 unfold guardSlot at hg
 simp only [hg,Zb,h']
theorem Qt2 {ops:Array Oper} {j g:Nat} (hg:guardSlot ops j=some g) {tmps:Array Value} {cvs:Array Value} (h:tmps.getD g Go.undef=.tuple cvs):yielded ops tmps j=none:=by
 unfold yielded
 unfold guardSlot at hg
 simp only [hg,Zb]
 rw [Z0] at h
 cases ht:tmps[g]? with
 |none=>rfl
 |some x=>rw [ht] at h;simp at h;subst h;rfl
def guardV (ops:Array Oper) (o:Oper) (env:Env):Option Bool:=
 match o.guard with
 |none=>some true
 |
  some (j,want)=>match guardSlot ops j with
  |none=>none
  |
   some g=>match env.getD g .undef with
   |.bool b=>some (b == want)
   |.tup []=>some false
   |_=>none
theorem Qhn {ops:Array Oper} {o:Oper} {b:Bool} (h:guardV ops o env=some b) (he:∀j want g,o.guard=some (j,want)->guardSlot ops j=some g->Rep M (a.tmps.getD g Go.undef) (env.getD g .undef)):Region.wanted o (yielded ops a.tmps)=b:=by
 unfold guardV at h
 unfold Region.wanted
 split at h
 ·rename_i hg;rw [hg];simpa using h
 ·rename_i j want hg
  rw [hg]
  split at h
  ·simp at h
  ·rename_i g hs
   have hr:=he j want g hg hs
   split at h
   ·rename_i b' hb
    rw [hb] at hr
    simp only [Qyq hs (Qan hr)]
    simp only [Zs] at h
    rw [<-h];cases b'<;>cases want<;>rfl
   ·rename_i hb
    rw [hb] at hr
    obtain ⟨cvs,e,_⟩:=Qag hr
    simp only [Qt2 hs e]
    simpa using h
   ·simp at h
theorem Qif {R:Type} (I:Inl R) (b:Bool) (ops:Array Oper) (o:Oper) (rest:List Oper) (env:Env) (S:Store) (K:Env->Store->Option R) :
  C.evOps I b ops (o::rest) env S K=match guardV ops o env with
   |some true=>C.evOp I b o env S λv S'=>C.evOps I b ops rest (put env o.dst v) S' K
   |some false=>C.evOps I b ops rest (put env o.dst (.tup [])) S K
   |none=>none:=by
 cases hg:o.guard with
 |none=>simp only [Ctx.evOps,guardV,hg]
 |
  some p=>
  obtain ⟨j,want⟩:=p
  cases hs:guardSlot ops j with
  |none=>simp only [Ctx.evOps,guardV,hg,hs]
  |
   some g=>
   cases hb:env.getD g .undef<;>try (simp only [Ctx.evOps,guardV,hg,hs,hb];done)
   ·rename_i b'
    have hset:=Qkm hb (by simp)
    cases b'<;>cases want<;>simp only [Ctx.evOps,guardV,hg,hs,hb,Zd,Zc,hset]<;>rfl
   ·rename_i vs
    cases vs<;>simp only [Ctx.evOps,guardV,hg,hs,hb]
theorem Qc8 (hI:InlOK P C I) {R:Type} (b:Bool) (ops:Array Oper):∀(rest:List Oper) (env:Env) (S:Store) (K:Env->Store->Option R),
  C.evOps (I R) b ops rest env S K=(C.evOps (I (Env×Store)) b ops rest env S λe s=>some (e,s)).bind λp=>K p.1 p.2
 |[],env,S,K=>rfl
 |
  o::rest,env,S,K=>by
  rw [Qif,Qif]
  split
  ·rw [Qbt hI b o env S,Qbt hI b o env S (λv S'=>C.evOps (I (Env×Store)) b ops rest (put env o.dst v) S' λe s=>some (e,s))]
   cases C.evOp (I (V×Store)) b o env S K0 with
   |none=>rfl
   |some p=>exact Qc8 hI b ops rest _ _ K
  ·exact Qc8 hI b ops rest _ _ K
  ·rfl
theorem Qhj (hC:Wc P C) (hI:InlOK P C I) {ops:Array Oper} {env':Env} {S':Store}:∀(rest:List Oper) (l:List Nat) (env:Env) (S:Store) (a:Act) (M:Mem),l.map (ops[·]?)=rest.map some->Now M S->Qy M a.tmps env ->
  C.evOps (I (Env×Store)) false ops rest env S (λe s=>some (e,s))=some (env',S') ->
  (∀a' M',Step M M'->Now M' S'->Qy M' a'.tmps env'->a'.defers=a.defers->S.length<=S'.length->Q .normal a' M'.w)->wpOps P ops Q l a M.w
 |
  [],[],env,S,a,M,hl,hN,he,h,hQ=>by
  simp only [Ctx.evOps,Zs,Z2] at h
  obtain ⟨rfl,rfl⟩:=h
  exact hQ a M (.refl M) hN he rfl (Z4 _)
 |
  o::rest,i::l,env,S,a,M,hl,hN,he,h,hQ=>by
  simp only [List.map_cons,List.cons.injEq] at hl
  obtain ⟨hi,hl⟩:=hl
  rw [Qif] at h
  simp only [wpOps,hi]
  split at h
  ·rename_i hg
   rw [if_pos (Qhn hg λj want g _ _=>he.get g)]
   refine .inl ?_
   rw [Qbt hI] at h
   simp only [Bd,Z5] at h
   obtain ⟨⟨v,S1⟩,h1,h2⟩:=h
   refine Qsi hC hI o hN he h1 λcv M1 hst hN1 hr hlen=>?_
   exact Qhj hC hI rest l _ S1 _ M1 hl hN1 ((hst.env hN.ok he).put o.dst hr) h2 λa' M' hst' hN' he' hd hlen'=>hQ a' M' (hst.trans hst') hN' he' (by rw [hd,Qcv]) (by omega)
  ·rename_i hg
   rw [if_neg (by rw [Qhn hg λj want g _ _=>he.get g];simp)]
   exact Qhj hC hI rest l _ S _ M hl hN (he.put o.dst (.imm (.tup #[] [] rfl (λj hj=>by simp at hj)))) h λa' M' hst' hN' he' hd hlen'=>hQ a' M' hst' hN' he' (by rw [hd,Qcv]) hlen'
  ·simp at h
 |[],_::_,_,_,_,_,hl,_,_,_,_=>by simp at hl
 |_::_,[],_,_,_,_,hl,_,_,_,_=>by simp at hl
end
section
variable {P:Program} {C:Ctx} {a:Act} {M:Mem} {S:Store} {env:Env} {v:V} {S':Store} {I:InlP}
def Keeps (W:List Nat) (S S':Store):Prop:=S.length<=S'.length/\(∀id,id∉W->S'.getD id .dead=S.getD id .dead)/\(S.length<S'.length->S.length∈W)
theorem Keeps.refl {W:List Nat} {S:Store}:Keeps W S S:=⟨Z4 _,λ_ _=>rfl,λh=>absurd h (Nat.lt_irrefl _)⟩
theorem Keeps.push {W:List Nat} {S:Store} {b:Blk} (h:S.length∈W):Keeps W S (S++[b]):=
 ⟨by simp,λid hid=>by
  have:id≠S.length:=λe=>hid (e▸h)
  simp only [Zl]
  by_cases hlt:id<S.length
  ·rw [Z47 hlt]
  ·rw [Z17 (by simp;omega),Z17 (by omega)],λ_=>h⟩
theorem Keeps.set {W:List Nat} {S:Store} {i:Nat} {b:Blk} (h:i∈W):Keeps W S (S.set i b):=
 ⟨by simp,λid hid=>by
  have:i≠id:=λe=>hid (e▸h)
  simp only [Zl,Z102 this],λh=>by simp at h⟩
theorem Qbn {v' v:V} {S1 S':Store} (h:K0 v' S1=some (v,S')):S1=S':=by
 simp only [K0,Zs,Z2] at h;exact h.2
theorem Qwv {C:Ctx} {t:Nat} {S:Store} {x v:V} {S':Store} (h:C.storeV t S x v some=some S'):Keeps (refs1 x) S S':=by
 unfold Ctx.storeV at h
 repeat' split at h
 all_goals first|(simp at h;done)|(simp only [Zs] at h;subst h;exact Keeps.set (by simp [refs1]))
theorem Qv6 {C:Ctx} {t:Nat} {S:Store} {x y:V} {v:V} {S':Store} (h:C.appendV t S x y K0=some (v,S')):Keeps (refs1 x++[S.length]) S S':=by
 unfold Ctx.appendV at h
 repeat' split at h
 all_goals try (simp at h;done)
 ·obtain rfl:=Qbn h;exact Keeps.set (by simp [refs1])
 ·obtain rfl:=Qbn h;exact Keeps.push (by simp)
 ·cases hn:isNil x<;>rw [hn] at h<;>simp only [Zd,Zc] at h
  ·cases hc:isCons x<;>rw [hc] at h<;>simp only [Zd,Zc] at h
   ·simp at h
   ·obtain rfl:=Qbn h;exact .refl
  ·obtain rfl:=Qbn h;exact Keeps.push (by simp)
theorem J8 {α:Type} {f:Option α} {g:α->V×Store} {v:V} {S':Store} (h:(f.bind λx=>K0 (g x).1 (g x).2)=some (v,S')):∃x,f=some x/\(g x).2=S':=by
 cases f with
 |none=>simp at h
 |some x=>exact ⟨x,rfl,Qbn h⟩
theorem keeps_k0 {W:List Nat} {S S1 S':Store} {v' v:V} (h:K0 v' S1=some (v,S')) (hk:Keeps W S S1):Keeps W S S':=by
 obtain rfl:=Qbn h;exact hk
theorem Qe1 (o:Oper) (h:C.evOp (I _) true o env S K0=some (v,S')) (hinl:isInl C o env=false):Keeps (opW C o env S) S S':=by
 obtain ⟨dst,op,type,pos,after,guard⟩:=o
 unfold Ctx.evOp at h
 cases op<;>simp only at h<;>try (simp at h;done)
 case move x=>exact keeps_k0 h .refl
 case assign x=>
  split at h
  ·rename_i hnil
   split at h
   ·simp at h
   ·exact keeps_k0 h (.push (by simp [opW,hnil]))
  ·exact keeps_k0 h .refl
 case pick c x y=>
  split at h
  case h_2=>simp at h
  split at h
  ·exact keeps_k0 h .refl
  ·rename_i b _ _ _ _
   cases b<;>exact keeps_k0 h .refl
 case alloc e=>
  split at h
  case h_2=>simp at h
  exact keeps_k0 h (.push (by simp [opW]))
 case box e x=>
  split at h
  case isFalse=>simp at h
  exact keeps_k0 h (.push (by simp [opW]))
 case build t parts=>
  split at h
  case h_2=>simp at h
  cases ho:C.ownD dst<;>rw [ho] at h
  ·exact keeps_k0 h .refl
  ·simp only [Zd] at h
   split at h
   case h_2=>simp at h
   exact keeps_k0 h (.push (by simp [opW,ho]))
 case buildSlice t len parts=>
  split at h
  case isFalse=>simp at h
  split at h
  case h_2=>simp at h
  cases ho:C.ownD dst<;>rw [ho] at h
  ·exact keeps_k0 h .refl
  ·exact keeps_k0 h (.push (by simp [opW,ho]))
 case load t x=>
  rw [Qb1] at h
  obtain ⟨x,_,h⟩:=J8 (g:=λv=>(v,S)) h
  obtain rfl:=h;exact .refl
 case store t x y=>
  rw [Qiz] at h
  obtain ⟨S1,h1,h⟩:=J8 (g:=λs=>(.tup [],s)) h
  obtain rfl:=h
  have:=Qwv h1
  exact ⟨this.1,λid hid=>this.2.1 id (by simpa [opW] using hid),λhl=>by simpa [opW] using this.2.2 hl⟩
 case nilCheck x=>
  repeat' split at h
  all_goals first|(simp at h;done)|exact keeps_k0 h .refl
 case binOp op t x y z=>
  rw [Qg3] at h
  obtain ⟨x,_,h⟩:=J8 (g:=λv=>(v,S)) h
  obtain rfl:=h;exact .refl
 case unOp op t x=>
  repeat' split at h
  all_goals first|(simp at h;done)|exact keeps_k0 h .refl
 case convert src dst' x=>
  unfold Ctx.convertV at h
  split at h
  case h_1=>exact keeps_k0 h .refl
  case h_2=>exact keeps_k0 h .refl
  case h_3=>exact keeps_k0 h .refl
  case h_4=>
   rename_i hd _
   repeat' split at h
   all_goals first|(simp at h;done)|exact keeps_k0 h (.push (by simp [opW,hd]))
  case h_5=>
   rename_i hd he
   repeat' split at h
   all_goals first|(simp at h;done)|exact keeps_k0 h (.set (by simp [opW,hd,he,refs1]))
  case h_6=>
   repeat' split at h
   all_goals first|(simp at h;done)|exact keeps_k0 h .refl
  case h_7=>simp at h
 case makeFunc fn first captured=>
  repeat' split at h
  all_goals first|(simp at h;done)|exact keeps_k0 h .refl
 case makeInterface t x=>
  repeat' split at h
  all_goals first|(simp at h;done)|exact keeps_k0 h .refl
 case makeSlice t l c=>
  unfold Ctx.makeSliceV at h
  repeat' split at h
  all_goals first|(simp at h;done)|exact keeps_k0 h (.push (by simp [opW]))
 case slice t x lo hi mx=>
  split at h
  ·split at h
   ·rw [Qgv] at h
    obtain ⟨x,_,h⟩:=J8 (g:=λv=>(v,S)) h
    obtain rfl:=h;exact .refl
   ·simp at h
  ·rw [Qj3] at h
   obtain ⟨x,_,h⟩:=J8 (g:=λv=>(v,S)) h
   obtain rfl:=h;exact .refl
 case fieldAddr t x f=>
  repeat' split at h
  all_goals first|(simp at h;done)|exact keeps_k0 h .refl
 case field t x f=>
  repeat' split at h
  all_goals first|(simp at h;done)|exact keeps_k0 h .refl
 case indexAddr t x ix=>
  rw [Qjm] at h
  obtain ⟨x,_,h⟩:=J8 (g:=λv=>(v,S)) h
  obtain rfl:=h;exact .refl
 case index t x ix=>
  repeat' split at h
  all_goals first|(simp at h;done)|exact keeps_k0 h .refl|skip
  rw [Qcx] at h
  obtain ⟨x,_,h⟩:=J8 (g:=λv=>(v,S)) h
  obtain rfl:=h;exact .refl
 case range t x=>
  repeat' split at h
  all_goals first|(simp at h;done)|exact keeps_k0 h (.push (by simp [opW]))
 case next it b=>
  cases b<;>simp only at h<;>try (simp at h;done)
  split at h
  case h_2=>simp at h
  rename_i id he
  repeat' split at h
  all_goals first|(simp at h;done)|exact keeps_k0 h (.set (by simp [opW,he,refs1]))|exact keeps_k0 h .refl
 case extract x i=>
  repeat' split at h
  all_goals first|(simp at h;done)|exact keeps_k0 h .refl
 case call c=>
  cases hcal:c.callee with
  |
   invoke r m=>
   simp only [hcal] at h
   unfold Ctx.invokeV at h
   repeat' split at h
   all_goals try (simp at h;done)
   rename_i p _ _
   obtain ⟨x,_,h⟩:=J8 (g:=λr=>(p.enc r,S)) h
   obtain rfl:=h;exact .refl
  |
   value f=>
   simp only [hcal] at h
   unfold Ctx.callV at h
   split at h
   case h_2=>simp at h
   rename_i g caps hfv
   have hng:C.inPl g=none:=by
    simp only [isInl,hcal,hfv] at hinl
    simpa using hinl
   simp only [hng] at h
   cases hclone:C.clone g with
   |
    some e=>
    simp only [hclone] at h
    repeat' split at h
    all_goals first|(simp at h;done)|exact keeps_k0 h (.push (by simp [opW,hcal,hfv,hclone]))
   |
    none=>
    simp only [hclone] at h
    split at h
    case h_2=>simp at h
    split at h
    case isFalse=>simp at h
    rename_i p hp hc
    simp only [Zn,Bool.false_or,Z7] at hc
    rw [Qiy hc.1] at h
    obtain ⟨x,_,h⟩:=J8 (g:=λr=>(p.enc r,S)) h
    obtain rfl:=h;exact .refl
  |
   builtin b=>
   simp only [hcal] at h
   split at h
   ·repeat' split at h
    all_goals first|(simp at h;done)|exact keeps_k0 h .refl
   ·rename_i t u x y ht hargs
    by_cases hkd:C.keepD dst=true
    ·simp only [hkd,Zd] at h
     split at h
     case h_2=>simp at h
     split at h
     ·simp at h
     ·unfold Ctx.appendW at h
      repeat' split at h
      all_goals first|(simp at h;done)|exact keeps_k0 h (.set (by simp only [opW,hcal,hargs];simp_all [refs1]))|(rename_i he _ _ _ _ _ _ _ _ _ _ _ _ _ _;simp at h)
     unfold Ctx.appendX at h
     cases hex:isExact x<;>rw [hex] at h<;>simp only [Zd,Zc] at h<;>(repeat' split at h)
     all_goals first|(simp at h;done)|exact keeps_k0 h .refl
    have hkd:C.keepD dst=false:=by simpa using hkd
    simp only [hkd,Zc] at h
    have key:∀{y':V},C.appendV t S (J7 x) y' K0=some (v,S')->Keeps (opW C {dst:=dst,op:=Op.call c,type:=type,pos:=pos,after:=after,guard:=guard} env S) S S':=λ{y'} h=>by
     have hk:=Qv6 h
     rw [Qh8] at hk
     have hin:∀id,id∈refs1 x++[S.length]->id∈opW C {dst:=dst,op:=Op.call c,type:=type,pos:=pos,after:=after,guard:=guard} env S:=λid hm=>by
      simp only [opW,hcal,hargs,Z93,Z50] at hm ⊢
      rcases hm with h1|h1
      ·exact .inl (.inl h1)
      ·exact .inr h1
     exact ⟨hk.1,λid hid=>hk.2.1 id λhm=>hid (hin id hm),λhl=>hin _ (hk.2.2 hl)⟩
    split at h
    ·exact key h
    ·split at h
     ·exact key h
     ·simp at h
    ·simp at h
   ·unfold maxV at h
    split at h
    case h_2=>simp at h
    exact keeps_k0 h .refl
   ·unfold minV at h
    split at h
    case h_2=>simp at h
    exact keeps_k0 h .refl
   ·rename_i t u x y ht hargs
    unfold Ctx.copyV at h
    repeat' split at h
    all_goals first|(simp at h;done)|exact keeps_k0 h (.set (by simp only [opW,hcal,hargs];simp [refs1]))
   ·rename_i t x ht hargs
    unfold Ctx.clearV at h
    repeat' split at h
    all_goals first|(simp at h;done)|exact keeps_k0 h (.set (by simp only [opW,hcal,hargs];simp [refs1]))
   ·repeat' split at h
    all_goals first|(simp at h;done)|exact keeps_k0 h .refl
   ·rename_i t u x y ht hargs
    split at h
    case h_3=>simp at h
    case h_2=>
     repeat' split at h
     all_goals first|(simp at h;done)|exact keeps_k0 h .refl
    rename_i bid ver n
    repeat' split at h
    all_goals first|(simp at h;done)|exact keeps_k0 h (.set (by simp only [opW,hcal,hargs];simp [refs1]))
   ·simp at h
theorem Qhi {a b:Nat}:Nat.blt a b=true↔a<b:=by rw [Nat.blt_eq]
abbrev Ent:=List Nat×List Nat×Bool
def accK (ac:Nat->Ent) (acc:List Ent):Nat->List Ent
 |0=>acc
 |k+1=>ac k::accK ac acc k
theorem Qop {ac ac':Nat->Ent} {e:Ent} {acc:List Ent} (h0:ac 0=e) (h:∀k,ac (k+1)=ac' k):∀k,accK ac acc (k+1)=accK ac' (e::acc) k
 |0=>by simp [accK,h0]
 |k+1=>by rw [accK,Qop h0 h k,h];rfl
structure Qf0 (C:Ctx) (I:InlP) (ops:Array Oper) (A:Plan) (o:Oper) (env:Env) (S:Store) (env1:Env) (S1:Store) (i:Nat) (acc:List Ent) (e:Ent):Prop where
 conf:confOK (pA A i) i acc (opR C o env) (opW C o env S) (isInl C o env)=true
 way:(guardV ops o env=some true/\(∃v,C.evOp (I _) true o env S K0=some (v,S1)/\env1=put env o.dst v)/\e=(opR C o env,opW C o env S,isInl C o env)) \/
  (guardV ops o env=some false/\S1=S/\env1=put env o.dst (.tup [])/\e=([],[],false))
theorem Qgl {R:Type} (I:Inl R) (ops:Array Oper) (A:Plan) (o:Oper) (rest:List Oper) (i:Nat) (acc:List Ent) (env:Env) (S:Store) (K:Env->Store->Option R) :
  C.evOpsD I ops A (o::rest) i acc env S K=if confOK (pA A i) i acc (opR C o env) (opW C o env S) (isInl C o env) then (match guardV ops o env with
   |some true=>C.evOp I true o env S λv S'=>C.evOpsD I ops A rest (i+1) ((opR C o env,opW C o env S,isInl C o env)::acc) (put env o.dst v) S' K
   |some false=>C.evOpsD I ops A rest (i+1) (([],[],false)::acc) (put env o.dst (.tup [])) S K
   |none=>none) else none:=by
 cases hg:o.guard with
 |none=>simp only [Ctx.evOpsD,guardV,hg]
 |
  some p=>
  obtain ⟨j,want⟩:=p
  cases hs:guardSlot ops j with
  |none=>simp only [Ctx.evOpsD,guardV,hg,hs]
  |
   some g=>
   cases hb:env.getD g .undef<;>try (simp only [Ctx.evOpsD,guardV,hg,hs,hb];done)
   ·rename_i b'
    have hset:=Qkm hb (by simp)
    cases b'<;>cases want<;>simp only [Ctx.evOpsD,guardV,hg,hs,hb,Zd,Zc,hset]<;>rfl
   ·rename_i vs
    cases vs<;>simp only [Ctx.evOpsD,guardV,hg,hs,hb]
theorem Qdx {P:Program} (hI:InlOK P C I) {R:Type} (ops:Array Oper) (A:Plan):∀(rest:List Oper) (i:Nat) (acc:List Ent) (env:Env) (S:Store) (K:Env->Store->Option R),
  C.evOpsD (I R) ops A rest i acc env S K=(C.evOpsD (I (Env×Store)) ops A rest i acc env S λe s=>some (e,s)).bind λp=>K p.1 p.2
 |[],i,acc,env,S,K=>rfl
 |
  o::rest,i,acc,env,S,K=>by
  rw [Qgl,Qgl]
  split
  case isFalse=>rfl
  split
  ·rw [Qbt hI true o env S,Qbt hI true o env S (λv S'=>C.evOpsD (I (Env×Store)) ops A rest (i+1) ((opR C o env,opW C o env S,isInl C o env)::acc) (put env o.dst v) S' λe s=>some (e,s))]
   cases C.evOp (I (V×Store)) true o env S K0 with
   |none=>rfl
   |some p=>exact Qdx hI ops A rest _ _ _ _ K
  ·exact Qdx hI ops A rest _ _ _ _ K
  ·rfl
theorem Qqt {P:Program} (hI:InlOK P C I) {ops:Array Oper} {A:Plan} {env':Env} {S':Store}:∀(rest:List Oper) (i:Nat) (acc:List Ent) (env:Env) (S:Store),
  C.evOpsD (I (Env×Store)) ops A rest i acc env S (λe s=>some (e,s))=some (env',S') ->
  ∃
   (E:Nat->Env) (T:Nat->Store) (ac:Nat->Ent),E 0=env/\T 0=S/\E rest.length=env'/\T rest.length=S' /\
   ∀k o,rest[k]? = some o->Qf0 C I ops A o (E k) (T k) (E (k+1)) (T (k+1)) (i+k) (accK ac acc k) (ac k)
 |
  [],i,acc,env,S,h=>by
  simp only [Ctx.evOpsD,Zs,Z2] at h
  obtain ⟨rfl,rfl⟩:=h
  exact ⟨λ_=>env,λ_=>S,λ_=>([],[],false),rfl,rfl,rfl,rfl,λk o h=>by simp at h⟩
 |
  o::rest,i,acc,env,S,h=>by
  rw [Qgl] at h
  split at h
  case isFalse=>simp at h
  rename_i hconf
  have key:∀(env1:Env) (S1:Store) (e:Ent),C.evOpsD (I (Env×Store)) ops A rest (i+1) (e::acc) env1 S1 (λe s=>some (e,s))=some (env',S') ->
    Qf0 C I ops A o env S env1 S1 i acc e->∃(E:Nat->Env) (T:Nat->Store) (ac:Nat->Ent),E 0=env/\T 0=S/\E (o::rest).length=env'/\T (o::rest).length=S' /\
   ∀k o',(o::rest)[k]? = some o'->Qf0 C I ops A o' (E k) (T k) (E (k+1)) (T (k+1)) (i+k) (accK ac acc k) (ac k):=by
   intro env1 S1 e h1 hs
   obtain ⟨E,T,ac,h2,h3,h4,h5,h6⟩:=Qqt hI rest _ _ _ _ h1
   refine ⟨fun|0=>env|k+1=>E k,fun|0=>S|k+1=>T k,fun|0=>e|k+1=>ac k,rfl,rfl,h4,h5,λk o' hk=>?_⟩
   cases k with
   |
    zero=>
    simp only [Z64,Zs] at hk
    subst hk
    simpa [h2,h3,accK] using hs
   |
    succ k=>
    have:=h6 k o' (by simpa using hk)
    rw [Qop (ac':=ac) (e:=e) rfl (λ_=>rfl)]
    rw [show i+(k+1)=i+1+k by omega]
    exact this
  split at h
  ·rename_i hg
   rw [Qbt hI] at h
   simp only [Bd,Z5] at h
   obtain ⟨⟨v,S1⟩,h1,h2⟩:=h
   exact key _ _ _ h2 ⟨hconf,.inl ⟨hg,⟨v,h1,rfl⟩,rfl⟩⟩
  ·rename_i hg
   exact key _ _ _ h ⟨hconf,.inr ⟨hg,rfl,rfl,rfl⟩⟩
  ·simp at h
theorem Qic (m n:Nat):tb m n=m.testBit n:=by
 rw [Nat.testBit_eq_decide_div_mod_eq]
 unfold tb
 have h1:Nat.land (Nat.shiftRight m n) 1=m/2^n%2:=by
  show (m >>> n) &&& 1=_
  rw [Nat.and_one_is_mod,Nat.shiftRight_eq_div_pow]
 rw [h1]
 by_cases h:m/2^n%2=1
 ·rw [h];rfl
 ·have:m/2^n%2=0:=by omega
  rw [this];rfl
theorem Qdi (a b n:Nat):tb (Nat.lor a b) n=(tb a n||tb b n):=by
 simp only [Qic];exact Nat.testBit_or a b n
theorem Qeg (q n:Nat):tb (Nat.shiftLeft 1 q) n=decide (q=n):=by
 rw [Qic]
 show (1 <<< q).testBit n=_
 rw [Nat.one_shiftLeft,Nat.testBit_two_pow]
theorem Qq3 (n:Nat):tb 0 n=false:=by rw [Qic,Nat.zero_testBit]
theorem Qjx (pl:Plan) {q:Nat}:∀(l:List Edge),tb (ancM pl l) q=true->∃e∈l,Region.binds .any e=true/\(q=e.on\/tb (pA pl e.on) q=true)
 |[],h=>by rw [ancM,Qq3] at h;simp at h
 |
  e::r,h=>by
  rw [ancM] at h
  cases hb:Region.binds .any e with
  |
   false=>
   rw [hb] at h
   obtain ⟨e',h1,h2⟩:=Qjx pl r h
   exact ⟨e',by simp [h1],h2⟩
  |
   true=>
   rw [hb] at h
   simp only [Zd,Qdi,Qeg,Bool.or_eq_true,decide_eq_true_eq] at h
   rcases h with (h|h)|h
   ·exact ⟨e,by simp,hb,.inl h.symm⟩
   ·exact ⟨e,by simp,hb,.inr h⟩
   ·obtain ⟨e',h1,h2⟩:=Qjx pl r h
    exact ⟨e',by simp [h1],h2⟩
theorem Qhd {D:Nat}:∀(rs:List RowP) (seen:Nat),Qb9 rs seen D=true->(∀d,tb seen d=true->tb D d=true)/\∀(p:Nat) (r:RowP) (d:Nat),rs[p]? = some r->r.1=d+1->tb D d=true/\tb seen d=false/\∀(p':Nat) (r':RowP),rs[p']? = some r'->r'.1=d+1->p=p'
 |
  [],seen,h=>by
  have:seen=D:=Z61 h
  subst this
  exact ⟨λd h=>h,λp r d h=>by simp at h⟩
 |
  r0::rs,seen,h=>by
  unfold Qb9 at h
  split at h
  ·rename_i h0
   obtain ⟨h1,h2⟩:=Qhd rs seen h
   refine ⟨h1,λp r d hp hr=>?_⟩
   cases p with
   |zero=>simp only [Z64,Zs] at hp;subst hp;omega
   |
    succ p=>
    obtain ⟨h3,h4,h5⟩:=h2 p r d (by simpa using hp) hr
    refine ⟨h3,h4,λp' r' hp' hr'=>?_⟩
    cases p' with
    |zero=>simp only [Z64,Zs] at hp';subst hp';omega
    |succ p'=>rw [h5 p' r' (by simpa using hp') hr']
  ·rename_i d0 h0
   simp only [Z7,Z75] at h
   obtain ⟨hn,h⟩:=h
   obtain ⟨h1,h2⟩:=Qhd rs _ h
   have hin:tb D d0=true:=h1 d0 (by rw [Qdi,Qeg];simp)
   refine ⟨λd hd=>h1 d (by rw [Qdi,hd];rfl),λp r d hp hr=>?_⟩
   cases p with
   |
    zero=>
    simp only [Z64,Zs] at hp;subst hp
    have:d=d0:=by omega
    subst this
    refine ⟨hin,hn,λp' r' hp' hr'=>?_⟩
    cases p' with
    |zero=>rfl
    |
     succ p'=>
     have:=(h2 p' r' d (by simpa using hp') hr').2.1
     rw [Qdi,Qeg] at this;simp at this
   |
    succ p=>
    obtain ⟨h3,h4,h5⟩:=h2 p r d (by simpa using hp) hr
    rw [Qdi,Qeg] at h4
    simp only [Bool.or_eq_false_iff,decide_eq_false_iff_not] at h4
    refine ⟨h3,h4.1,λp' r' hp' hr'=>?_⟩
    cases p' with
    |
     zero=>
     simp only [Z64,Zs] at hp';subst hp'
     exact (h4.2 (by omega)).elim
    |succ p'=>rw [h5 p' r' (by simpa using hp') hr']
theorem Qms {ops:Array Oper} {pl:Plan}:∀(os:List Oper) (rs:List RowP) (i:Nat),Qds ops pl i os rs=true->∀k o,os[k]? = some o->∃r,rs[k]? = some r/\Qa6 ops pl (i+k) o r=true
 |[],[],i,h=>λk o hk=>by simp at hk
 |
  o0::os,r0::rs,i,h=>λk o hk=>by
  simp only [Qds,Z7] at h
  cases k with
  |zero=>simp only [Z64,Zs] at hk;subst hk;exact ⟨r0,rfl,h.1⟩
  |
   succ k=>
   obtain ⟨r,h1,h2⟩:=Qms os rs (i+1) h.2 k o (by simpa using hk)
   exact ⟨r,by simpa using h1,by rw [show i+(k+1)=i+1+k by omega];exact h2⟩
 |[],_::_,i,h=>λk o hk=>by simp at hk
 |_::_,[],i,h=>by simp [Qds] at h
theorem Qi8 {ops:Array Oper} {pl:Plan} (h:J3 ops pl=true) {i:Nat} {oi:Oper} (hi:ops[i]? = some oi):∃r,pl.1[i]? = some r/\Qa6 ops pl i oi r=true:=by
 simp only [J3,Z7] at h
 obtain ⟨r,h1,h2⟩:=Qms _ _ 0 h.1 i oi (by simpa using hi)
 exact ⟨r,h1,by simpa using h2⟩
theorem Qpx {ops:Array Oper} {pl:Plan} {i:Nat} {o:Oper} {r:RowP} (h:Qa6 ops pl i o r=true) {d:Nat} (hd:o.dst=some d):r.1=d+1:=by
 simp only [Qa6,hd,Z7] at h
 exact Z61 h.1.1.2
theorem planOK_spec {ops:Array Oper} {pl:Plan} (h:J3 ops pl=true) {i:Nat} {oi:Oper} (hi:ops[i]? = some oi) :
  (∀e∈oi.after,Region.binds .any e=true->e.on<i)/\∀q oq d,ops[q]? = some oq->oq.dst=some d->(d∈oi.looksAt ops->(q<i/\tb (pA pl i) q=true)\/i=q\/(i<q/\tb (pA pl q) i=true))/\(i=q\/oi.dst≠some d):=by
 obtain ⟨r,hr,hrow⟩:=Qi8 h hi
 have hds:Qb9 pl.1 0 pl.2=true:=by simp only [J3,Z7] at h;exact h.2
 have hrow':=hrow
 simp only [Qa6,Z7,Z23] at hrow
 obtain ⟨⟨⟨⟨h1,h2⟩,h3⟩,h4⟩,h5⟩:=hrow
 have hpA:pA pl i=r.2.2:=by simp [pA,Zl,hr]
 refine ⟨λe he hb=>?_,λq oq d hq hd=>?_⟩
 ·have:=h2 e (by simpa using he)
  simp only [hb,Zn,Bool.false_or] at this
  exact Qhi.1 this
 ·obtain ⟨rq,hrq,hrowq⟩:=Qi8 h hq
  have hrd:=Qpx hrowq hd
  obtain ⟨hD,_,huniq⟩:=(Qhd pl.1 0 hds).2 q rq d hrq hrd
  refine ⟨λhl=>?_,?_⟩
  ·have:=h4 d (by simpa using hl)
   simp only [List.any_eq_true] at this
   obtain ⟨tq,htq,hb⟩:=this
   have ht:tq.1=d:=Z61 hb
   have h6:=h5 tq htq
   split at h6
   ·rw [ht,hD] at h6;simp at h6
   ·rename_i q' hq'
    simp only [Z7,Bool.or_eq_true] at h6
    obtain ⟨h7,h8⟩:=h6
    have h7:=Z61 h7
    have hq'':q=q':=by
     rw [Zl] at h7
     cases hg:pl.1[q']? with
     |none=>rw [hg] at h7;simp at h7
     |some r'=>rw [hg] at h7;exact huniq q' r' hg (by simpa [ht] using h7)
    subst hq''
    rcases h8 with (h8|h8)|h8
    ·exact .inr (.inl (Z61 h8).symm)
    ·exact .inl ⟨Qhi.1 h8.1,by rw [hpA];exact h8.2⟩
    ·exact .inr (.inr ⟨Qhi.1 h8.1,h8.2⟩)
  ·by_cases hdi:oi.dst=some d
   ·left
    exact (huniq i r hr (Qpx hrow' hdi)).symm
   ·exact .inr hdi
theorem Qob {ops:Array Oper} {pl:Plan} (hs:J3 ops pl=true) {L:Nat->Prop} (down:∀j oj,ops[j]? = some oj->L j->∀e∈oj.after,Region.binds .any e=true->L e.on) :
  ∀(i:Nat) (oi:Oper),ops[i]? = some oi->(∀e∈oi.after,Region.binds .any e=true->L e.on)->∀q,tb (pA pl i) q=true->L q:=by
 intro i
 induction i using Nat.strongRecOn with
 |
  _ i ih=>
  intro oi hi hall q hq
  obtain ⟨r,hr,hrow⟩:=Qi8 hs hi
  have hpA:pA pl i=r.2.2:=by simp [pA,Zl,hr]
  simp only [Qa6,Z7] at hrow
  have he:=Z61 hrow.1.1.1.1
  rw [hpA,he] at hq
  obtain ⟨e,he,hb,hq⟩:=Qjx pl _ hq
  have he:e∈oi.after:=by simpa using he
  rcases hq with rfl|hq
  ·exact hall e he hb
  ·have hlt:=(planOK_spec hs hi).1 e he hb
   have hsz:i<ops.size:=by
    by_cases h:i<ops.size
    ·exact h
    ·rw [Array.getElem?_eq_none (by omega)] at hi;simp at hi
   have ho:ops[e.on]? = some (ops[e.on]'(by omega)):=by rw [Z29]
   exact ih e.on hlt _ ho (down _ _ ho (hall e he hb)) q hq
theorem Qmw {anc:Nat} {ac:Nat->Ent} {rd wr:List Nat} {bar:Bool}:∀(k:Nat),confOK anc k (accK ac [] k) rd wr bar=true->∀{q:Nat},q<k ->
  tb anc q=true\/(rd=[]/\wr=[]/\bar=false)\/((ac q).1=[]/\(ac q).2.1=[]/\(ac q).2.2=false)\/(bar=false/\(ac q).2.2=false/\(∀id∈wr,id∉(ac q).1)/\(∀id∈wr,id∉(ac q).2.1)/\∀id∈rd,id∉(ac q).2.1)
 |0,h,q,hq=>by omega
 |
  k+1,h,q,hq=>by
  simp only [accK,confOK,Z7] at h
  by_cases e:q=k
  ·subst e
   have:=h.1
   simp only [Qju,Bool.or_eq_true,Z7,Z75,disj,Z23,List.contains_eq_mem,decide_eq_false_iff_not,List.isEmpty_iff] at this
   rcases this with h1|h1|h1|h1
   ·exact .inl h1
   ·exact .inr (.inl ⟨h1.1.1,h1.1.2,h1.2⟩)
   ·exact .inr (.inr (.inl ⟨h1.1.1,h1.1.2,h1.2⟩))
   ·obtain ⟨⟨⟨⟨h1,h2⟩,h3⟩,h4⟩,h5⟩:=h1
    exact .inr (.inr (.inr ⟨h1,h2,h3,h4,h5⟩))
  ·exact Qmw k h.2 (by omega)
end
end Go.Proofs.YtihfdjkjpncjfaaGreatDoor.A
end
section
set_option linter.unusedSectionVars false
namespace Go.Proofs.YtihfdjkjpncjfaaGreatDoor.A
open Go Go.RowKit
theorem put_get_ne {env:Env} {dst:Option Nat} {v:V} {t:Nat} (h:dst≠some t):(put env dst v).getD t .undef=env.getD t .undef:=by
 cases dst with
 |none=>rfl
 |
  some d=>
  have:d≠t:=λe=>h (by rw [e])
  simp only [put,Zl,Z102 this]
theorem Qmh {env:Env} {d:Nat} {v:V} (h:d<env.length):(put env (some d) v).getD d .undef=v:=by
 simp [put,Zl,h]
theorem put_len {env:Env} {dst:Option Nat} {v:V}:(put env dst v).length=env.length:=by cases dst<;>simp [put]
section
variable {P:Program} {C:Ctx} {I:InlP} {ops:Array Oper} {pl:Plan} {E:Nat->Env} {T:Nat->Store} {ac:Nat->Ent} {a0:Act} {M0:Mem}
abbrev RunV (C:Ctx) (I:InlP) (ops:Array Oper) (pl:Plan) (E:Nat->Env) (T:Nat->Store) (ac:Nat->Ent):Prop:=
 ∀k o,ops[k]? = some o->Qf0 C I ops pl o (E k) (T k) (E (k+1)) (T (k+1)) k (accK ac [] k) (ac k)
def Wr (ac:Nat->Ent) (q id:Nat):Prop:=id∈(ac q).2.1\/(ac q).2.2=true
def Qbb (e:Ent):Prop:=e.1=[]/\e.2.1=[]/\e.2.2=false
theorem Qbg {q id:Nat} (h:Qbb (ac q)):¬Wr ac q id:=λhw=>by
 rcases hw with hw|hw
 ·rw [h.2.1] at hw;simp at hw
 ·rw [h.2.2] at hw;simp at hw
structure Inv (ops:Array Oper) (E:Nat->Env) (T:Nat->Store) (ac:Nat->Ent) (a0:Act) (M0:Mem) (L:Nat->Prop) (a:Act) (M:Mem):Prop where
 down:∀j oj,ops[j]? = some oj->L j->∀e∈oj.after,Region.binds .any e=true->L e.on
 ok:M.ok
 step:Step M0 M
 defs:a.defers=a0.defers
 size:a.tmps.size=(E 0).length
 slot:∀t,t<(E 0).length->(∀q oq,ops[q]? = some oq->oq.dst=some t->L q)->Rep M (a.tmps.getD t Go.undef) ((E ops.size).getD t .undef)
 slot0:∀t,t<(E 0).length->(∀q oq,ops[q]? = some oq->oq.dst=some t->¬L q)->Rep M (a.tmps.getD t Go.undef) ((E 0).getD t .undef)
 store:∀id j,j<=ops.size->(∀q,q<j->Wr ac q id->L q)->(∀q,j<=q->q<ops.size->Wr ac q id->¬L q)->M.S id=(T j).getD id .dead
 alloc:∀id,(M.μ id).isSome=true->id<(T 0).length\/∃q,q<ops.size/\L q/\(T q).length<=id/\id<(T (q+1)).length
 mono:∀q,q<ops.size->L q->(T q).length<=(T (q+1)).length
variable (hr:RunV C I ops pl E T ac)
include hr
theorem Qbu:∀k,k<=ops.size->(E k).length=(E 0).length
 |0,_=>rfl
 |
  k+1,h=>by
  have hk:ops[k]? = some (ops[k]'(by omega)):=Z29 (by omega)
  rw [<-Qbu k (by omega)]
  rcases (hr k _ hk).way with ⟨_,⟨v,_,e⟩,_⟩|⟨_,_,e,_⟩<;>rw [e,put_len]
theorem Qgf {t i:Nat}:∀k,i<=k->k<=ops.size->(∀q oq,i<=q->q<k->ops[q]? = some oq->oq.dst≠some t)->(E k).getD t .undef=(E i).getD t .undef:=by
 intro k
 induction k with
 |zero=>
      intro h _ _;have:i=0:=by omega
      subst this;rfl
 |
  succ k ih=>
  intro h h2 h3
  by_cases e:i=k+1
  ·subst e;rfl
  ·rw [<-ih (by omega) (by omega) λq oq h4 h5=>h3 q oq h4 (by omega)]
   have hk:ops[k]? = some (ops[k]'(by omega)):=Z29 (by omega)
   have hne:=h3 k _ (by omega) (by omega) hk
   rcases (hr k _ hk).way with ⟨_,⟨v,_,e⟩,_⟩|⟨_,_,e,_⟩<;>rw [e,put_get_ne hne]
theorem Qwy {k:Nat} (hk:k<ops.size) {id:Nat} (hw:¬Wr ac k id):(T (k+1)).getD id .dead=(T k).getD id .dead:=by
 have hk':ops[k]? = some (ops[k]'(by omega)):=Z29 (by omega)
 rcases (hr k _ hk').way with ⟨_,⟨v,h1,_⟩,e⟩|⟨_,e,_,_⟩
 ·rw [Wr,e] at hw
  simp only [not_or,Bool.not_eq_true] at hw
  exact (Qe1 _ h1 hw.2).2.1 id hw.1
 ·rw [e]
theorem Qjg {id i:Nat}:∀k,i<=k->k<=ops.size->(∀q,i<=q->q<k->¬Wr ac q id)->(T k).getD id .dead=(T i).getD id .dead:=by
 intro k
 induction k with
 |zero=>
      intro h _ _;have:i=0:=by omega
      subst this;rfl
 |
  succ k ih=>
  intro h h2 h3
  by_cases e:i=k+1
  ·subst e;rfl
  ·rw [Qwy hr (by omega) (h3 k (by omega) (by omega)),ih (by omega) (by omega) λq h4 h5=>h3 q h4 (by omega)]
theorem Qxd {k:Nat} (hk:k<ops.size) (hb:(ac k).2.2=false):(T k).length<=(T (k+1)).length:=by
 have hk':ops[k]? = some (ops[k]'(by omega)):=Z29 (by omega)
 rcases (hr k _ hk').way with ⟨_,⟨v,h1,_⟩,e⟩|⟨_,e,_,_⟩
 ·rw [e] at hb;exact (Qe1 _ h1 hb).1
 ·rw [e];exact Z4 _
theorem Qfb {k:Nat} (hk:k<ops.size) (h:(T k).length<(T (k+1)).length):¬Qbb (ac k):=λhp=>by
 have hk':ops[k]? = some (ops[k]'(by omega)):=Z29 (by omega)
 rcases (hr k _ hk').way with ⟨_,⟨v,h1,_⟩,e⟩|⟨_,e,_,_⟩
 ·rw [e] at hp
  obtain ⟨_,h3,h4⟩:=hp
  simp only at h3 h4
  have:=(Qe1 _ h1 h4).2.2 h
  rw [h3] at this;simp at this
 ·rw [e] at h;omega
theorem Qa0 {L:Nat->Prop} {a:Act} {M:Mem} (hI:Inv ops E T ac a0 M0 L a M) {i:Nat}:∀k,i<=k->k<=ops.size->(∀q,i<=q->q<k->(ac q).2.2=true->L q)->(T i).length<=(T k).length:=by
 intro k
 induction k with
 |zero=>
      intro h _ _;have:i=0:=by omega
      subst this;exact Z4 _
 |
  succ k ih=>
  intro h h2 h3
  by_cases e:i=k+1
  ·subst e;exact Z4 _
  ·refine Z11 (ih (by omega) (by omega) λq h4 h5=>h3 q h4 (by omega)) ?_
   cases hb:(ac k).2.2 with
   |false=>exact Qxd hr (by omega) hb
   |true=>exact hI.mono k (by omega) (h3 k (by omega) (by omega) hb)
variable (hs:J3 ops pl=true)
include hs
structure Turn (ops:Array Oper) (L:Nat->Prop) (i:Nat) (o:Oper):Prop where
 get:ops[i]? = some o
 un:¬L i
 all:∀e∈o.after,Region.binds .any e=true->L e.on
omit hr hs in
theorem Turn.lt {L:Nat->Prop} {i:Nat} {o:Oper} (h:Turn ops L i o):i<ops.size:=by
 by_cases hlt:i<ops.size
 ·exact hlt
 ·have:=h.get;rw [Array.getElem?_eq_none (by omega)] at this;simp at this
theorem run_conf {k q:Nat} (hk:k<ops.size) (hq:q<k):tb (pA pl k) q=true\/Qbb (ac k)\/Qbb (ac q)\/((ac k).2.2=false/\(ac q).2.2=false/\(∀id∈(ac k).2.1,id∉(ac q).1)/\(∀id∈(ac k).2.1,id∉(ac q).2.1)/\∀id∈(ac k).1,id∉(ac q).2.1):=by
 have hk':ops[k]? = some (ops[k]'(by omega)):=Z29 (by omega)
 have hst:=hr k _ hk'
 have h1:=Qmw k hst.conf hq
 rcases hst.way with ⟨_,_,e⟩|⟨_,_,_,e⟩
 ·rcases h1 with h1|h1|h1|h1
  ·exact .inl h1
  ·exact .inr (.inl (by rw [e];exact h1))
  ·exact .inr (.inr (.inl h1))
  ·exact .inr (.inr (.inr (by rw [e];exact h1)))
 ·exact .inr (.inl (by rw [e];exact ⟨rfl,rfl,rfl⟩))
theorem Qgx {L:Nat->Prop} {a:Act} {M:Mem} (hI:Inv ops E T ac a0 M0 L a M) {k q:Nat} (hk:k<ops.size) (hL:L k) (hq:tb (pA pl k) q=true):L q:=by
 have hk':ops[k]? = some (ops[k]'(by omega)):=Z29 (by omega)
 exact Qob hs hI.down k _ hk' (hI.down k _ hk' hL) q hq
theorem Qdh {L:Nat->Prop} {a:Act} {M:Mem} (hI:Inv ops E T ac a0 M0 L a M) {i:Nat} {o:Oper} (ht:Turn ops L i o) {q:Nat} (hq:tb (pA pl i) q=true):L q:=
 Qob hs hI.down i o ht.get ht.all q hq
theorem Qhp {L:Nat->Prop} {a:Act} {M:Mem} (hI:Inv ops E T ac a0 M0 L a M) {i:Nat} {o:Oper} (ht:Turn ops L i o) {q:Nat} (hq:i<q) (hq2:q<ops.size) (hL:L q):¬tb (pA pl q) i=true:=λh=>ht.un (Qgx hr hs hI hq2 hL h)
theorem Qqa {L:Nat->Prop} {a:Act} {M:Mem} (hI:Inv ops E T ac a0 M0 L a M) {i:Nat} {o:Oper} (ht:Turn ops L i o) {t:Nat} (hl:t∈o.looksAt ops):Rep M (a.tmps.getD t Go.undef) ((E i).getD t .undef):=by
 by_cases hlt:t<(E 0).length
 ·by_cases hw:∃q0 oq0,ops[q0]? = some oq0/\oq0.dst=some t/\i<=q0
  ·obtain ⟨q0,oq0,hq0,hd0,hle⟩:=hw
   have huniq:∀q oq,ops[q]? = some oq->oq.dst=some t->q=q0:=λq oq hq hd=>by
    rcases ((planOK_spec hs hq).2 q0 oq0 t hq0 hd0).2 with h|h
    ·exact h
    ·exact (h hd).elim
   rw [Qgf hr i (i:=0) (Z94 _) (Z72 ht.lt) λq oq _ hq2 hq hd=>by have:=huniq q oq hq hd;omega]
   refine hI.slot0 t hlt λq oq hq hd hL=>?_
   obtain rfl:=huniq q oq hq hd
   rcases ((planOK_spec hs ht.get).2 q oq t hq hd).1 hl with h|h|h
   ·omega
   ·subst h;exact ht.un hL
   ·exact ht.un (Qgx hr hs hI (Z88.1 hq).1 hL h.2)
  ·rw [<-Qgf hr ops.size (Z72 ht.lt) (Z4 _) λq oq h1 _ hq hd=>hw ⟨q,oq,hq,hd,h1⟩]
   exact hI.slot t hlt λq oq hq hd=>by
    rcases ((planOK_spec hs ht.get).2 q oq t hq hd).1 hl with h|h|h
    ·exact Qdh hr hs hI ht h.2
    ·exact (hw ⟨q,oq,hq,hd,by omega⟩).elim
    ·exact (hw ⟨q,oq,hq,hd,by omega⟩).elim
 ·have:(E i).getD t .undef=.undef:=by
   rw [Zl,Z17 (by rw [Qbu hr i (Z72 ht.lt)];omega)];rfl
  rw [this];exact .imm (.undef _)
theorem Qj4 {L:Nat->Prop} {a:Act} {M:Mem} (hI:Inv ops E T ac a0 M0 L a M) {i:Nat} {o:Oper} (ht:Turn ops L i o) (ty:Nat) (x:Operand) (hx:x∈o.op.operands):Rep M (a.eval x) (C.opv (E i) ty x):=by
 cases x with
 |
  tmp t=>
  have:=Qqa hr hs hI ht (t:=t) (List.mem_append_left _ (List.mem_filterMap.2 ⟨.tmp t,by simpa using hx,rfl⟩))
  simpa [Act.eval,Ctx.opv,Z0] using this
 |const c=>exact .imm (Qmo C ty c)
 |func f=>exact .imm (.func f)
 |global g=>exact .imm (.undef _)
theorem Qyn {L:Nat->Prop} {a:Act} {M:Mem} (hI:Inv ops E T ac a0 M0 L a M) {i:Nat} {o:Oper} (ht:Turn ops L i o) (hg:guardV ops o (E i)=some true) (ty:Nat) (x:Operand) (hx:x∈o.op.operands) (hmv:isMv o.op=false):∀id∈refs1 (C.opv (E i) ty x),M.S id=(T i).getD id .dead:=by
 intro id hid
 have hrd:id∈opR C o (E i):=by
  simp only [opR,hmv,Zc,List.mem_flatMap]
  refine ⟨x,by simpa using hx,?_⟩
  have:refs1 (C.opv (E i) ty x) ⊆ refs1 (C.opv (E i) 0 x):=by
   cases x<;>simp only [Ctx.opv]<;>try exact λ_ h=>h
   rename_i c
   intro y hy
   have:refs1 (C.constV ty c)=[]:=by
    unfold Ctx.constV
    split<;>try rfl
    unfold Ctx.emptyOf
    repeat' split
    all_goals rfl
   rw [this] at hy;simp at hy
  exact this hid
 have hac:(ac i)=(opR C o (E i),opW C o (E i) (T i),isInl C o (E i)):=by
  rcases (hr i o ht.get).way with ⟨_,_,e⟩|⟨h,_⟩
  ·exact e
  ·rw [hg] at h;simp at h
 have hrd':id∈(ac i).1:=by rw [hac];exact hrd
 refine hI.store id i (Z72 ht.lt) (λq hq hw=>?_) (λq hq hq2 hw hL=>?_)
 ·rcases run_conf hr hs ht.lt hq with h|h|h|⟨_,h2,_,_,h5⟩
  ·exact Qdh hr hs hI ht h
  ·rw [h.1] at hrd';simp at hrd'
  ·exact (Qbg h hw).elim
  ·rcases hw with hw|hw
   ·exact (h5 id hrd' hw).elim
   ·rw [h2] at hw;simp at hw
 ·have hne:i≠q:=λe=>ht.un (e▸hL)
  rcases run_conf hr hs hq2 (show i<q by omega) with h|h|h|⟨h1,_,h3,_,_⟩
  ·exact Qhp hr hs hI ht (by omega) hq2 hL h
  ·exact Qbg h hw
  ·rw [h.1] at hrd';simp at hrd'
  ·rcases hw with hw|hw
   ·exact h3 id hw hrd'
   ·rw [h1] at hw;simp at hw
theorem Inv.next {L:Nat->Prop} {a:Act} {M:Mem} (hI:Inv ops E T ac a0 M0 L a M) {i:Nat} {o:Oper} (ht:Turn ops L i o) {M':Mem} (hst:Step M M') (hok:M'.ok) {cv:Value} (hrep:∀d,o.dst=some d->d<(E 0).length->Rep M' cv ((E (i+1)).getD d .undef))
  (hstore:∀id j,j<=ops.size->(∀q,q<j->Wr ac q id->L q\/q=i)->(∀q,j<=q->q<ops.size->Wr ac q id->¬(L q\/q=i))->M'.S id=(T j).getD id .dead)
  (halloc:∀id,(M'.μ id).isSome=true->id<(T 0).length\/∃q,q<ops.size/\(L q\/q=i)/\(T q).length<=id/\id<(T (q+1)).length)
  (hmono:(T i).length<=(T (i+1)).length):Inv ops E T ac a0 M0 (λq=>L q\/q=i) (a.put o.dst cv) M' where
 down j oj hj hL e he hb:=by
  rcases hL with hL|rfl
  ·exact .inl (hI.down j oj hj hL e he hb)
  ·have:=ht.get;rw [this] at hj;simp only [Zs] at hj;subst hj
   exact .inl (ht.all e he hb)
 ok:=hok
 step:=hI.step.trans hst
 defs:=by rw [Qcv,hI.defs]
 size:=by
  rw [<-hI.size];cases o.dst<;>simp [Act.put]
 slot t hlt hw:=by
  by_cases hd:o.dst=some t
  ·have h1:=hrep t hd hlt
   rw [<-Qgf hr ops.size (i:=i+1) (by have:=ht.lt;omega) (Z4 _) λq oq h1 _ hq hd'=>by
    have:=((planOK_spec hs ht.get).2 q oq t hq hd').2
    rcases this with h|h
    ·omega
    ·exact h hd] at h1
   have:(a.put o.dst cv).tmps.getD t Go.undef=cv:=by
    rw [hd];simp [Act.put,Z0,hI.size,hlt]
   rw [this];exact h1
  ·have h1:=hst.rep hI.ok (hI.slot t hlt λq oq hq hdq=>(hw q oq hq hdq).resolve_right λe=>by
    subst e;have:=ht.get;rw [this] at hq;simp only [Zs] at hq;subst hq;exact hd hdq)
   have:(a.put o.dst cv).tmps.getD t Go.undef=a.tmps.getD t Go.undef:=by
    cases hdd:o.dst with
    |none=>rfl
    |
     some d=>
     have:d≠t:=λe=>hd (by rw [hdd,e])
     simp [Act.put,Z0,Z92 this]
   rw [this];exact h1
 slot0 t hlt hw:=by
  have hd:o.dst≠some t:=λh=>hw i o ht.get h (.inr rfl)
  have h1:=hst.rep hI.ok (hI.slot0 t hlt λq oq hq hdq hL=>hw q oq hq hdq (.inl hL))
  have:(a.put o.dst cv).tmps.getD t Go.undef=a.tmps.getD t Go.undef:=by
   cases hdd:o.dst with
   |none=>rfl
   |
    some d=>
    have:d≠t:=λe=>hd (by rw [hdd,e])
    simp [Act.put,Z0,Z92 this]
  rw [this];exact h1
 store:=hstore
 alloc:=halloc
 mono q hq hL:=by
  rcases hL with hL|rfl
  ·exact hI.mono q hq hL
  ·exact hmono
theorem Qyh (hC:Wc P C) (hIn:InlOK P C I) {L:Nat->Prop} {a:Act} {M:Mem} (hI:Inv ops E T ac a0 M0 L a M) {i:Nat} {o:Oper} (ht:Turn ops L i o) (hg:guardV ops o (E i)=some true) {Q:Exit->Act->World->Prop} {K:Act->World->Prop}
  (hK:∀a' M',Inv ops E T ac a0 M0 (λq=>L q\/q=i) a' M'->K a' M'.w):o.wp P a M.w K Q:=by
 have hlt:=ht.lt
 obtain ⟨v,hev,hE,hac⟩:∃v,C.evOp (I _) true o (E i) (T i) K0=some (v,T (i+1))/\E (i+1)=put (E i) o.dst v/\ac i=(opR C o (E i),opW C o (E i) (T i),isInl C o (E i)):=by
  rcases (hr i o ht.get).way with ⟨_,⟨v,h1,h2⟩,e⟩|⟨h,_⟩
  ·exact ⟨v,h1,h2,e⟩
  ·rw [hg] at h;simp at h
 have hrepv:∀{M':Mem} {cv:Value},Rep M' cv v->∀d,o.dst=some d->d<(E 0).length->Rep M' cv ((E (i+1)).getD d .undef):=λhv d hd hdl=>by
  rw [hE,hd,Qmh (by rw [Qbu hr i (Z72 hlt)];exact hdl)];exact hv
 cases hinl:isInl C o (E i) with
 |
  false=>
  have hmono:(T i).length<=(T (i+1)).length:=(Qe1 _ hev hinl).1
  have hbar:(ac i).2.2=false:=by rw [hac];exact hinl
  have hWi:∀{id},Wr ac i id↔id∈opW C o (E i) (T i):=by intro id;simp only [Wr,hbar,hac,Z25,or_false,hinl]
  refine Qmd hC o hI.ok (λhgrow=>?_) (λty x hx=>Qj4 hr hs hI ht ty x hx) (λty x hx hmv=>Qyn hr hs hI ht hg ty x hx hmv) hinl hev λcv M' wr hv hp hsub=>hK _ _ (hI.next hr hs ht hp.step hp.ok (hrepv hv) ?_ ?_ hmono)
  ·cases hμ:M.μ (T i).length with
   |none=>rfl
   |
    some l=>
    exfalso
    have hnp:=Qfb hr hlt hgrow
    rcases hI.alloc (T i).length (by rw [hμ];rfl) with h|⟨q,hq,hL,h1,h2⟩
    ·have:=Qa0 hr hI i (Z94 _) (Z72 hlt) λq _ hq hb=>by
      rcases run_conf hr hs hlt hq with h|h|h|⟨_,h2,_⟩
      ·exact Qdh hr hs hI ht h
      ·exact (hnp h).elim
      ·rw [h.2.2] at hb;simp at hb
      ·rw [h2] at hb;simp at hb
     omega
    ·have hne:q≠i:=λe=>ht.un (e▸hL)
     by_cases hqi:q<i
     ·have:=Qa0 hr hI (i:=q+1) i (by omega) (Z72 hlt) λr _ hr' hb=>by
       rcases run_conf hr hs hlt hr' with h|h|h|⟨_,h2,_⟩
       ·exact Qdh hr hs hI ht h
       ·exact (hnp h).elim
       ·rw [h.2.2] at hb;simp at hb
       ·rw [h2] at hb;simp at hb
      omega
     ·have:=Qa0 hr hI (i:=i+1) q (by omega) (Z72 hq) λr hr1 hr2 hb=>by
       have hrq:tb (pA pl q) r=true:=by
        rcases run_conf hr hs hq hr2 with h|h|h|⟨_,h2,_⟩
        ·exact h
        ·exact (Qfb hr hq (by omega) h).elim
        ·rw [h.2.2] at hb;simp at hb
        ·rw [h2] at hb;simp at hb
       exact Qgx hr hs hI hq hL hrq
      omega
  ·intro id j hj h1 h2
   have hcase:Wr ac i id->i<j/\∀q,i<q->q<j->¬Wr ac q id:=λhw=>by
    have hij:i<j:=by
     rcases Z39 i j with h|h
     ·exact h
     ·exact (h2 i h hlt hw (.inr rfl)).elim
    refine ⟨hij,λq hq1 hq2 hwq=>?_⟩
    have hL:L q:=(h1 q hq2 hwq).resolve_right (by omega)
    rcases run_conf hr hs (show q<ops.size by omega) hq1 with h|h|h|⟨h3,_,_,h4,_⟩
    ·exact Qhp hr hs hI ht hq1 (by omega) hL h
    ·exact Qbg h hwq
    ·exact Qbg h hw
    ·rcases hwq with hwq|hwq
     ·rcases hw with hw|hw
      ·exact h4 id hwq hw
      ·rw [hbar] at hw;simp at hw
     ·rw [h3] at hwq;simp at hwq
   by_cases hwi:Wr ac i id
   ·obtain ⟨hij,hno⟩:=hcase hwi
    have hT:(T j).getD id .dead=(T (i+1)).getD id .dead:=Qjg hr j (by omega) hj λq hq1 hq2=>hno q (by omega) hq2
    rw [hT]
    by_cases hwr:id∈wr
    ·exact hp.wrS id hwr
    ·rw [hp.keepM id hwr,hp.keepS id hwr]
     refine hI.store id i (Z72 hlt) (λq hq hwq=>(h1 q (by omega) hwq).resolve_right (by omega)) (λq hq hq2 hwq hL=>?_)
     by_cases hqi:q=i
     ·subst hqi;exact ht.un hL
     ·by_cases hqj:q<j
      ·exact hno q (by omega) hqj hwq
      ·exact h2 q (by omega) hq2 hwq (.inl hL)
   ·have hwr:id∉wr:=λh=>hwi (hWi.2 (hsub h))
    rw [hp.keepM id hwr]
    exact hI.store id j hj (λq hq hwq=>(h1 q hq hwq).resolve_right λe=>by subst e;exact hwi hwq) (λq hq hq2 hwq hL=>h2 q hq hq2 hwq (.inl hL))
  ·intro id hid
   by_cases e:id=(T i).length
   ·subst e
    rcases hp.μ' hid with h|h
    ·rcases hI.alloc _ h with h|⟨q,h1,h2,h3⟩
     ·exact .inl h
     ·exact .inr ⟨q,h1,.inl h2,h3⟩
    ·exact .inr ⟨i,hlt,.inr rfl,Z4 _,h⟩
   ·rw [hp.μ id e] at hid
    rcases hI.alloc _ hid with h|⟨q,h1,h2,h3⟩
    ·exact .inl h
    ·exact .inr ⟨q,h1,.inl h2,h3⟩
 |
  true=>
  have hbar:(ac i).2.2=true:=by rw [hac];exact hinl
  have hbef:∀q,q<i->¬Qbb (ac q)->L q:=λq hq hn=>by
   rcases run_conf hr hs hlt hq with h|h|h|⟨h,_⟩
   ·exact Qdh hr hs hI ht h
   ·have:=h.2.2;rw [hbar] at this;simp at this
   ·exact (hn h).elim
   ·rw [hbar] at h;simp at h
  have haft:∀q,i<q->q<ops.size->¬Qbb (ac q)->¬L q:=λq hq hq2 hn hL=>by
   rcases run_conf hr hs hq2 hq with h|h|h|⟨_,h,_⟩
   ·exact Qhp hr hs hI ht hq hq2 hL h
   ·exact hn h
   ·have:=h.2.2;rw [hbar] at this;simp at this
   ·rw [hbar] at h;simp at h
  have hnb:∀q,(ac q).2.2=true->¬Qbb (ac q):=λq h hp=>by rw [hp.2.2] at h;simp at h
  have hN:Now M (T i):=by
   refine ⟨hI.ok,λid=>hI.store id i (Z72 hlt) (λq hq hw=>hbef q hq λhp=>Qbg hp hw) (λq hq hq2 hw hL=>?_),λid hid=>?_⟩
   ·by_cases e:q=i
    ·subst e;exact ht.un hL
    ·exact haft q (by omega) hq2 (λhp=>Qbg hp hw) hL
   ·cases hμ:M.μ id with
    |none=>rfl
    |
     some l=>
     exfalso
     rcases hI.alloc id (by rw [hμ];rfl) with h|⟨q,hq,hL,h1,h2⟩
     ·have:=Qa0 hr hI i (Z94 _) (Z72 hlt) λq _ hq hb=>hbef q hq (hnb q hb)
      omega
     ·have hqi:q<i:=by
       rcases Nat.lt_trichotomy q i with h|h|h
       ·exact h
       ·subst h;exact (ht.un hL).elim
       ·exact (haft q h hq (Qfb hr hq (by omega)) hL).elim
      have:=Qa0 hr hI (i:=q+1) i (by omega) (Z72 hlt) λr _ hr' hb=>hbef r hr' (hnb r hb)
      omega
  refine Qkx hIn true o hN (λty x hx=>Qj4 hr hs hI ht ty x hx) hinl hev λcv M' hst hN' hv hlen=>hK _ _ (hI.next hr hs ht hst hN'.ok (hrepv hv) ?_ ?_ hlen)
  ·intro id j hj h1 h2
   have hij:i<j:=by
    rcases Z39 i j with h|h
    ·exact h
    ·exact (h2 i h hlt (.inr hbar) (.inr rfl)).elim
   rw [hN'.is id]
   refine (Qjg hr j (by omega) hj λq hq1 hq2 hw=>?_).symm
   exact haft q (by omega) (by omega) (λhp=>Qbg hp hw) ((h1 q hq2 hw).resolve_right (by omega))
  ·have key:∀m,m<=i+1->∀id,id<(T m).length->id<(T 0).length\/∃q,q<m/\(T q).length<=id/\id<(T (q+1)).length:=by
    intro m
    induction m with
    |zero=>intro _ id h;exact .inl h
    |
     succ m ih=>
     intro hm id h
     by_cases hlm:id<(T m).length
     ·rcases ih (by omega) id hlm with h|⟨q,h1,h2⟩
      ·exact .inl h
      ·exact .inr ⟨q,by omega,h2⟩
     ·exact .inr ⟨m,by omega,by omega,h⟩
   intro id hid
   have hlt':id<(T (i+1)).length:=by
    rcases Z39 id (T (i+1)).length with h|h
    ·exact h
    ·rw [hN'.fresh id h] at hid;simp at hid
   rcases key (i+1) (Z4 _) id hlt' with h|⟨q,h1,h2,h3⟩
   ·exact .inl h
   ·refine .inr ⟨q,by omega,?_,h2,h3⟩
    by_cases e:q=i
    ·exact .inr e
    ·exact .inl (hbef q (by omega) (Qfb hr (by omega) (by omega)))
theorem Qxz {L:Nat->Prop} {a:Act} {M:Mem} (hI:Inv ops E T ac a0 M0 L a M) {i:Nat} {o:Oper} (ht:Turn ops L i o) (hg:guardV ops o (E i)=some false):Inv ops E T ac a0 M0 (λq=>L q\/q=i) (a.put o.dst Go.undef) M:=by
 have hlt:=ht.lt
 obtain ⟨hT,hE,hac⟩:T (i+1)=T i/\E (i+1)=put (E i) o.dst (.tup [])/\ac i=([],[],false):=by
  rcases (hr i o ht.get).way with ⟨h,_⟩|⟨_,h⟩
  ·rw [hg] at h;simp at h
  ·exact h
 have hwi:∀id,¬Wr ac i id:=λid h=>by simp [Wr,hac] at h
 refine hI.next hr hs ht (.refl M) hI.ok (λd hd hdl=>?_) (λid j hj h1 h2=>?_) (λid hid=>?_) (by rw [hT];exact Z4 _)
 ·rw [hE,hd,Qmh (by rw [Qbu hr i (Z72 hlt)];exact hdl)]
  exact .imm (.tup #[] [] rfl (λj hj=>by simp at hj))
 ·exact hI.store id j hj (λq hq hwq=>(h1 q hq hwq).resolve_right λe=>by subst e;exact hwi _ hwq) (λq hq hq2 hwq hL=>h2 q hq hq2 hwq (.inl hL))
 ·rcases hI.alloc _ hid with h|⟨q,h1,h2,h3⟩
  ·exact .inl h
  ·exact .inr ⟨q,h1,.inl h2,h3⟩
end
theorem Qzf {l:List Bool} {i:Nat} (h:l[i]? = some false):(l.set i true).count false+1=l.count false:=by
 induction l generalizing i with
 |nil=>simp at h
 |
  cons b l ih=>
  cases i with
  |zero=>simp only [Z64,Zs] at h;subst h;simp
  |
   succ i=>
   have:=ih (i:=i) (by simpa using h)
   simp only [List.set_cons_succ,List.count_cons] at this ⊢
   omega
section
variable {P:Program} {C:Ctx} {I:InlP} {ops:Array Oper} {pl:Plan} {E:Nat->Env} {T:Nat->Store} {ac:Nat->Ent} {a0:Act} {M0:Mem} {Q:Exit->Act->World->Prop}
abbrev Lst (listed:Array Bool) (q:Nat):Prop:=listed.getD q false=true
theorem Qsx (hr:RunV C I ops pl E T ac) (hs:J3 ops pl=true) (hC:Wc P C) (hIn:InlOK P C I) (hQ:∀a M,(∀L,(∀q,q<ops.size->L q)->Inv ops E T ac a0 M0 L a M->Q .normal a M.w)) :
  ∀(fuel:Nat) (listed:Array Bool) (a:Act) (M:Mem),listed.size=ops.size->listed.toList.count false=fuel->Inv ops E T ac a0 M0 (Lst listed) a M->wpAny P .any ops Q fuel listed a M.w:=by
 intro fuel
 have hfin:∀(listed:Array Bool) (a:Act) (M:Mem),listed.size=ops.size->Inv ops E T ac a0 M0 (Lst listed) a M->Region.ready .any ops listed=[]->Q .normal a M.w:=by
  intro listed a M hsz hI hrd
  refine hQ a M _ (λq hq=>?_) hI
  have key:∀q,q<ops.size->Lst listed q:=by
   intro q
   induction q using Nat.strongRecOn with
   |
    _ q ih=>
    intro hq
    by_cases h:listed.getD q false=true
    ·exact h
    ·exfalso
     have ho:ops[q]? = some (ops[q]'hq):=Z29 hq
     have hmem:q∈Region.ready .any ops listed:=mem_ready.2 ⟨by
      have:q<listed.size:=by omega
      simp [Z0,this] at h ⊢;exact h,_,ho,λe he hb=>by
       have:=(planOK_spec hs ho).1 e he hb
       exact ih e.on this (by omega)⟩
     rw [hrd] at hmem;simp at hmem
  exact key q hq
 induction fuel with
 |
  zero=>
  intro listed a M hsz hcount hI
  have hrd:Region.ready .any ops listed=[]:=by
   rw [List.eq_nil_iff_forall_not_mem]
   intro j hj
   obtain ⟨h0,o,ho,_⟩:=mem_ready.1 hj
   have hj':j<ops.size:=(Z88.1 ho).1
   have:j<listed.size:=by omega
   have hf:listed.toList[j]? = some false:=by simp [Z0,this] at h0 ⊢;exact h0
   have:=List.count_pos_iff.2 (List.mem_of_getElem? hf)
   omega
  exact ⟨hrd,hfin listed a M hsz hI hrd⟩
 |
  succ fuel ih=>
  intro listed a M hsz hcount hI
  refine ⟨hfin listed a M hsz hI,λi hi=>?_⟩
  obtain ⟨h0,o,ho,hall⟩:=mem_ready.1 hi
  have hi':i<ops.size:=(Z88.1 ho).1
  have hil:i<listed.size:=by omega
  have hf:listed.toList[i]? = some false:=by simp [Z0,hil] at h0 ⊢;exact h0
  have ht:Turn ops (Lst listed) i o:=⟨ho,by simp [Lst,Z0,hil] at h0 ⊢;exact h0,λe he hb=>hall e he hb⟩
  have hset:∀{a' M'},Inv ops E T ac a0 M0 (λq=>Lst listed q\/q=i) a' M'->wpAny P .any ops Q fuel (listed.setIfInBounds i true) a' M'.w:=λ{a' M'} hI'=>by
   refine ih _ a' M' (by simpa using hsz) ?_ ?_
   ·have:=Qzf hf
    simp only [Array.toList_setIfInBounds]
    omega
   ·have hfun:(λq=>Lst listed q\/q=i)=Lst (listed.setIfInBounds i true):=by
     funext q
     simp only [Lst,Z0]
     by_cases e:q=i
     ·subst e;simp [hil]
     ·rw [Z92 (λh=>e h.symm)];simp [e]
    rw [<-hfun];exact hI'
  unfold wpOp
  simp only [ho]
  have hgw:∀b,guardV ops o (E i)=some b->Region.wanted o (yielded ops a.tmps)=b:=λb hb=>Qhn hb λj want g hg hgs=>Qqa hr hs hI ht (by
   have:g∈o.looksAt ops:=by
    unfold Oper.looksAt
    rw [hg]
    refine List.mem_append_right _ ?_
    unfold guardSlot at hgs
    simp [hgs]
   exact this)
  rcases (hr i o ho).way with ⟨hg,_⟩|⟨hg,_⟩
  ·rw [if_pos (hgw true hg)]
   exact .inl (Qyh hr hs hC hIn hI ht hg λa' M' hI'=>hset hI')
  ·rw [if_neg (by rw [hgw false hg];simp)]
   exact hset (Qxz hr hs hI ht hg)
theorem Qyt (hC:Wc P C) (hIn:InlOK P C I) {id:Nat} {env env':Env} {S S':Store} {a:Act} {M:Mem} (hN:Now M S) (he:Qy M a.tmps env) (hs:J3 ops pl=true)
  (h:C.evOpsD (I (Env×Store)) ops pl ops.toList 0 [] env S (λe s=>some (e,s))=some (env',S'))
  (hQ:∀a' M',Step M M'->Now M' S'->Qy M' a'.tmps env'->a'.defers=a.defers->S.length<=S'.length->Q .normal a' M'.w):(Code.region id ops true).wp P Q a M.w:=by
 obtain ⟨E,T,ac,rfl,rfl,hE,hT,htr⟩:=Qqt hIn _ _ _ _ _ h
 have hr:RunV C I ops pl E T ac:=λk o hk=>by simpa using htr k o (by simpa using hk)
 simp only [Z31] at hE hT
 subst hE hT
 have hgrow:M.w.grownBy {M.w with drawn:=M.w.drawn+1} none:=⟨rfl,rfl,rfl,Z4 _,λ_ _ _=>rfl⟩
 have hp:=post_world hN.ok (T 0) hgrow
 have hN1:=hp.now hN
 refine wp_region_any hC.mixed (Qsx (a0:=a) (M0:=M) hr hs hC hIn (λa' M' L hL hI=>?_) ops.size _ a {M with w:={M.w with drawn:=M.w.drawn+1} } (by simp) (by simp) ?_)
 ·have hmono:(T 0).length<=(T ops.size).length:=Qa0 hr hI ops.size (Z94 _) (Z4 _) λq _ hq _=>hL q hq
  refine hQ a' M' hI.step ⟨hI.ok,λid=>hI.store id ops.size (Z4 _) (λq hq _=>hL q hq) (λq h1 h2=>by omega),λid hid=>?_⟩ ⟨?_,λt ht=>?_⟩ hI.defs hmono
  ·cases hμ:M'.μ id with
   |none=>rfl
   |
    some l=>
    exfalso
    rcases hI.alloc id (by rw [hμ];rfl) with h|⟨q,hq,_,h1,h2⟩
    ·omega
    ·have:=Qa0 hr hI (i:=q+1) ops.size (by omega) (Z4 _) λr _ hr' _=>hL r hr'
     omega
  ·rw [Qbu hr _ (Z4 _)];exact hI.size
  ·have:=hI.slot t (by rw [Qbu hr _ (Z4 _)] at ht;exact ht) λq oq hq _=>hL q (Z88.1 hq).1
   rw [Zl,Z1 ht] at this
   exact this
 ·refine ⟨λj oj hj hL=>?_,hN1.ok,hp.step,rfl,he.1,λt ht hw=>?_,λt ht _=>?_,λid j hj h1 h2=>?_,λid hid=>?_,λq hq hL=>?_⟩
  ·have:=(Z88.1 hj).1
   simp [Lst,Z0,this] at hL
  ·rw [Qgf hr ops.size (i:=0) (Z94 _) (Z4 _) λq oq _ hq hqo hd=>by
    have:=hw q oq hqo hd
    simp [Lst,Z0,hq] at this]
   have:=hp.step.rep hN.ok (he.2 t ht)
   rw [Zl,Z1 ht]
   exact this
  ·have:=hp.step.rep hN.ok (he.2 t ht)
   rw [Zl,Z1 ht]
   exact this
  ·rw [hN1.is id]
   exact (Qjg hr j (Z94 _) hj λq _ hq hw=>by
    have:=h1 q hq hw
    simp [Lst,Z0,show q<ops.size by omega] at this).symm
  ·left
   rcases Z39 id (T 0).length with h|h
   ·exact h
   ·rw [hN1.fresh id h] at hid;simp at hid
  ·simp [Lst,Z0,hq] at hL
end
abbrev Out:=X×Env×Store
abbrev KK:Kont Out:=λe env S=>some (e,env,S)
abbrev Bk {R:Type} (f:Option Out) (K:Kont R):Option R:=f.bind λp=>K p.1 p.2.1 p.2.2
theorem Qk3 {R:Type} (k:Env->Store->Option Out) (K:Kont R) (p:Out):Kont.seq (λenv S=>Bk (k env S) K) K p.1 p.2.1 p.2.2=Bk (Kont.seq k KK p.1 p.2.1 p.2.2) K:=by
 obtain ⟨e,env,S⟩:=p
 cases e<;>rfl
theorem Yk {R:Type} (id:Nat) (K:Kont R) (p:Out):Kont.block id K p.1 p.2.1 p.2.2=Bk (Kont.block id KK p.1 p.2.1 p.2.2) K:=by
 obtain ⟨e,env,S⟩:=p
 cases e<;>simp only [Kont.block]<;>try rfl
 split<;>rfl
theorem Qvn {R:Type} (K:Kont R) (p:Out):Kont.noGoto K p.1 p.2.1 p.2.2=Bk (Kont.noGoto KK p.1 p.2.1 p.2.2) K:=by
 obtain ⟨e,env,S⟩:=p
 cases e<;>rfl
theorem Yz {R:Type} (f:Option Out) (g:Kont Out) (K:Kont R):Bk (Bk f g) K=Bk f λe env S=>Bk (g e env S) K:=by cases f<;>rfl
theorem Yv {R:Type} {f:Option Out} {K K':Kont R} (h:∀p:Out,K p.1 p.2.1 p.2.2=K' p.1 p.2.1 p.2.2):Bk f K=Bk f K':=by
 cases f with
 |none=>rfl
 |some p=>exact h p
section
variable {P:Program} {C:Ctx} {I:InlP} (hI:InlOK P C I)
include hI
theorem Qgy {R:Type} (fid base id:Nat) (ops:Array Oper) (draw:Bool) (env:Env) (S:Store) (K:Kont R):C.evK (I R) fid base (.region id ops draw) env S K=Bk (C.evK (I Out) fid base (.region id ops draw) env S KK) K:=by
 simp only [Ctx.evK]
 cases draw<;>simp only [Zd,Zc]
 ·rw [Qc8 hI,Qc8 hI false ops ops.toList env S λenv S=>KK .normal env S]
  cases C.evOps (I (Env×Store)) false ops ops.toList env S λe s=>some (e,s)<;>rfl
 ·split
  ·rw [Qdx hI,Qdx hI ops _ ops.toList 0 [] env S λenv S=>KK .normal env S]
   cases C.evOpsD (I (Env×Store)) ops (C.draws fid id) ops.toList 0 [] env S λe s=>some (e,s)<;>rfl
  ·rfl
theorem Qw {R:Type} (fid base:Nat):∀(c:Code) (env:Env) (S:Store) (K:Kont R),C.evK (I R) fid base c env S K=Bk (C.evK (I Out) fid base c env S KK) K
 |.skip,env,S,K=>rfl
 |.region id ops draw,env,S,K=>Qgy hI fid base id ops draw env S K
 |
  .seq a b,env,S,K=>by
  simp only [Ctx.evK]
  rw [Qw fid base a,Qw (R:=Out) fid base a env S (Kont.seq (λenv S=>C.evK (I Out) fid base b env S KK) KK),Yz]
  rw [show (λenv S=>C.evK (I R) fid base b env S K)=λenv S=>Bk (C.evK (I Out) fid base b env S KK) K from funext λenv=>funext λS=>Qw fid base b env S K]
  exact Yv (Qk3 _ K)
 |
  .cond c t e,env,S,K=>by
  simp only [Ctx.evK]
  split
  ·rename_i b _
   cases b<;>simp only [Zd,Zc]
   ·exact Qw fid base e env S K
   ·exact Qw fid base t env S K
  ·rfl
 |
  .block id (.loop b),env,S,K=>by
  simp only [Ctx.evK]
  generalize C.unroll fid id=n
  generalize (env,S)=st
  revert st
  induction n with
  |
   zero=>
   intro st
   simp only [Qbf]
   split
   ·rename_i m out _
    cases m with
    |none=>rfl
    |some o=>exact Yk id K (out o)
   ·rename_i m out out' _
    cases m with
    |none=>rfl
    |
     some o=>cases o with
     |inl o=>exact Yk id K (out o)
     |inr o=>exact Yk id K (out' o)
   ·rfl
  |
   succ n ih=>
   intro st
   simp only [Qbf]
   rw [Qw fid base b,Qw (R:=Out) fid base b st.1 st.2 (Kont.seq _ (Kont.block id KK)),Yz]
   refine Yv λp=>?_
   obtain ⟨e,env,S⟩:=p
   cases e with
   |normal=>exact ih (env,S)
   |exit i=>exact Yk id K (.exit i,env,S)
   |goto l=>exact Yk id K (.goto l,env,S)
   |ret=>rfl
 |
  .block id .skip,env,S,K=>by
  simp only [Ctx.evK];rfl
 |
  .block id (.region i ops draw),env,S,K=>by
  show C.evK (I R) fid base (.region i ops draw) env S (Kont.block id K)=Bk (C.evK (I Out) fid base (.region i ops draw) env S (Kont.block id KK)) K
  rw [Qgy hI,Qgy (R:=Out) hI fid base i ops draw env S (Kont.block id KK),Yz]
  exact Yv (Yk id K)
 |
  .block id (.seq a b),env,S,K=>by
  show C.evK (I R) fid base (.seq a b) env S (Kont.block id K)=Bk (C.evK (I Out) fid base (.seq a b) env S (Kont.block id KK)) K
  rw [Qw fid base (.seq a b),Qw (R:=Out) fid base (.seq a b) env S (Kont.block id KK),Yz]
  exact Yv (Yk id K)
 |
  .block id (.cond a b c),env,S,K=>by
  show C.evK (I R) fid base (.cond a b c) env S (Kont.block id K)=Bk (C.evK (I Out) fid base (.cond a b c) env S (Kont.block id KK)) K
  rw [Qw fid base (.cond a b c),Qw (R:=Out) fid base (.cond a b c) env S (Kont.block id KK),Yz]
  exact Yv (Yk id K)
 |
  .block id (.block i b),env,S,K=>by
  show C.evK (I R) fid base (.block i b) env S (Kont.block id K)=Bk (C.evK (I Out) fid base (.block i b) env S (Kont.block id KK)) K
  rw [Qw fid base (.block i b),Qw (R:=Out) fid base (.block i b) env S (Kont.block id KK),Yz]
  exact Yv (Yk id K)
 |
  .block id (.exit i),env,S,K=>by
  show Kont.block id K (.exit i) env S=Bk (Kont.block id KK (.exit i) env S) K
  exact Yk id K (.exit i,env,S)
 |.block id .ret,env,S,K=>rfl
 |.block id (.rangeFunc ..),env,S,K=>rfl
 |
  .block id (.scope c),env,S,K=>by
  show C.evK (I R) fid base (.scope c) env S (Kont.block id K)=Bk (C.evK (I Out) fid base (.scope c) env S (Kont.block id KK)) K
  rw [Qw fid base (.scope c),Qw (R:=Out) fid base (.scope c) env S (Kont.block id KK),Yz]
  exact Yv (Yk id K)
 |.block id (.label l),env,S,K=>rfl
 |
  .block id (.goto l),env,S,K=>by
  show Kont.block id K (.goto l) env S=Bk (Kont.block id KK (.goto l) env S) K
  exact Yk id K (.goto l,env,S)
 |.block id (.refuse ..),env,S,K=>rfl
 |.ret,env,S,K=>rfl
 |.exit id,env,S,K=>rfl
 |.loop _,env,S,K=>rfl
 |.rangeFunc ..,env,S,K=>rfl
 |
  .scope c,env,S,K=>by
  show C.evK (I R) fid base c env S (Kont.noGoto K)=Bk (C.evK (I Out) fid base c env S (Kont.noGoto KK)) K
  rw [Qw fid base c,Qw (R:=Out) fid base c env S (Kont.noGoto KK),Yz]
  exact Yv (Qvn K)
 |.label _,env,S,K=>rfl
 |.goto _,env,S,K=>rfl
 |.refuse _,env,S,K=>rfl
termination_by c=>SizeOf.sizeOf c
theorem Qqe {R:Type} (fid base:Nat) (c:Code) (K:Kont R):∀(n:Nat) (p:Out),C.gotoK (I R) fid base c K n p.1 p.2.1 p.2.2=Bk (C.gotoK (I Out) fid base c KK n p.1 p.2.1 p.2.2) K
 |0,(.normal,env,S)=>rfl
 |0,(.exit i,env,S)=>rfl
 |0,(.ret,env,S)=>rfl
 |0,(.goto l,env,S)=>rfl
 |n+1,(.normal,env,S)=>rfl
 |n+1,(.exit i,env,S)=>rfl
 |n+1,(.ret,env,S)=>rfl
 |
  n+1,(.goto l,env,S)=>by
  simp only [Ctx.gotoK]
  split
  ·split
   ·rename_i rest _
    rw [Qw hI,Qw hI (R:=Out) fid base rest env S (C.gotoK (I Out) fid base c KK n),Yz]
    exact Yv (Qqe fid base c K n)
   ·rfl
  ·rfl
theorem Qpd {R:Type} (fid base:Nat) (c:Code) (env:Env) (S:Store) (K:Kont R):C.evS (I R) fid base c env S K=Bk (C.evS (I Out) fid base c env S KK) K:=by
 unfold Ctx.evS
 rw [Qw hI,Qw hI (R:=Out) fid base c env S (C.gotoK (I Out) fid base c KK _),Yz]
 exact Yv (Qqe hI fid base c K _)
theorem Qym {R:Type} (fid base:Nat) (c:Code) (env:Env) (S:Store) (K:Kont R):C.evB (I R) fid base c env S K=Bk (C.evB (I Out) fid base c env S KK) K:=by
 unfold Ctx.evB
 split
 ·exact Qpd hI fid base _ env S K
 ·rename_i x c
  rw [Qw hI,Qw hI (R:=Out) fid base x env S (Kont.seq (λenv S=>C.evS (I Out) fid base c env S KK) KK),Yz]
  rw [show (λenv S=>C.evS (I R) fid base c env S K)=λenv S=>Bk (C.evS (I Out) fid base c env S KK) K from funext λenv=>funext λS=>Qpd hI fid base c env S K]
  exact Yv (Qk3 _ K)
 ·exact Qw hI fid base c env S K
end
theorem Y9 (C:Ctx) {R:Type} (env:Env) (S:Store):∀(rs:List ResultVar) (K:List V->Option R),C.resK env S rs K=(C.resK env S rs some).bind K
 |[],K=>rfl
 |
  .tmp t::r,K=>by
  simp only [Ctx.resK]
  rw [Y9 C env S r,Y9 C env S r λvs=>some (env.getD t .undef::vs)]
  cases C.resK env S r some<;>rfl
 |
  .cell a t::r,K=>by
  simp only [Ctx.resK]
  rw [Qb1,Qb1 C t S _ λv=>C.resK env S r λvs=>some (v::vs)]
  cases C.loadV t S (env.getD a .undef) some with
  |none=>rfl
  |
   some v=>
   simp only [Zb]
   rw [Y9 C env S r,Y9 C env S r λvs=>some (v::vs)]
   cases C.resK env S r some<;>rfl
theorem Qh6 {a b:Nat}:Nat.blt a b=true↔a<b:=by rw [Nat.blt_eq]
theorem Qkl {M:Mem} (hM:M.ok) {S S1:Store} (hi:M.is S1) (hc:∀id ver,contentOf S1 id ver=contentOf S id ver) {tmps:Array Value}:∀(ts:List Nat) (env:Env),Qy M tmps env->(∀t∈ts,still S1 (env.getD t .undef))->Qy M tmps (immSlots ts env S)
 |[],env,he,_=>he
 |
  t::ts,env,he,hs=>by
  simp only [immSlots]
  have hst:=hs t (by simp)
  have hstill:still S1 (immOf S (env.getD t .undef)):=by
   have hrep:=he.get (a:=⟨tmps,[]⟩) t
   generalize env.getD t .undef=v at hst hrep
   cases v<;>simp only [immOf]<;>try exact hst
   ·split<;>trivial
   ·rename_i id ver lo n
    split
    ·rename_i c hcc
     obtain ⟨_,_,hp⟩:=W7 hrep
     obtain ⟨_,m,_,_,_,hm,_⟩:=hp c (by rw [hi id];exact (hc id ver).trans hcc)
     cases c<;>simp [lenV] at hm<;>trivial
    ·trivial
  refine Qkl hM hi hc ts _ ⟨by simpa using he.1,λu hu=>?_⟩ λu hu=>?_
  ·rw [List.getElem_set]
   split
   ·rename_i e
    subst e
    have hu':t<env.length:=by simpa using hu
    have h1:=Qjs hM hi (he.get (a:=⟨tmps,[]⟩) t) hst
    rwa [Qdk hc] at h1
   ·exact he.2 u (by simpa using hu)
  ·rw [Zl,List.getElem?_set]
   split
   ·split
    ·exact hstill
    ·trivial
   ·rw [<-Zl];exact hs u (by simp [hu])
theorem Qdr (base n:Nat) (ks:List Nat) (S:Store):∀(bs:Store) (i:Nat),(Q4 base n ks S i bs).length=bs.length/\∀k,(Q4 base n ks S i bs)[k]? = (bs[k]?).map λb=>bif Nat.blt (i+k) base then normBlk base n S true b else if ks.contains (i+k) then normBlk base n S false b else .dead
 |[],i=>⟨rfl,λk=>by simp [Q4]⟩
 |
  b::bs,i=>by
  obtain ⟨h1,h2⟩:=Qdr base n ks S bs (i+1)
  refine ⟨by simp [Q4,h1],λk=>?_⟩
  cases k with
  |zero=>simp [Q4]
  |
   succ k=>
   simp only [Q4,List.getElem?_cons_succ,h2 k]
   rw [show i+1+k=i+(k+1) by omega]
theorem Qqk {base n:Nat} {S:Store} {old:Bool} {b:Blk}:(normBlk base n S old b).own=b.own:=by cases b<;>rfl
theorem Qnh {base n:Nat} {S:Store} {old:Bool} {b:Blk}:(normBlk base n S old b).fix=b.fix:=by
 cases b<;>try rfl
 rename_i g _ _;cases g<;>rfl
theorem Qkf {base n:Nat} {S:Store} {b:Blk} (ver:Nat):contentB (normBlk base n S true b) ver=contentB b ver:=by cases b<;>rfl
theorem Qnz {base n:Nat} {S:Store} {b:Blk}:verB (normBlk base n S true b)=verB b:=by cases b<;>rfl
theorem Qfr {O:Nat->Prop} {w:World} {cv:Value} {v:V} (h:Rep0 O w cv v) (hc:contentVal v=true):Rep0 O w cv (unexact v):=by
 cases h with
 |
  slice A n cap v fl cf hf hx hle hm hcl ho hr=>
  exact .slice A n cap _ fl cf (by cases v<;>first|exact hf|(simp [contentVal] at hc)) (λh=>by cases v<;>simp [contentVal,unexact,isExact] at hc h) hle hm hcl ho hr
 |_=>simp [contentVal] at hc
theorem Qb5 {M M':Mem} (id:Nat) (hμ:M'.μ id=M.μ id) (hc:∀ver,contentB (M'.S id) ver=contentB (M.S id) ver) (hv:verB (M'.S id)=verB (M.S id)) (hf:(M'.S id).fix=(M.S id).fix) {cv:Value} {v:V} (hid:refs1 v=[id]) (h:M.Ref cv v):M'.Ref cv v:=by
 refine ⟨h.1,?_⟩
 have h2:=h.2
 cases v<;>simp only [refs1] at hid<;>try (simp at hid;done)
 all_goals
  simp only [List.cons.injEq,and_true] at hid
  subst hid
  simp only [Mem.Ref1,verLe,hμ,hc,hv,hf] at h2 ⊢
  exact h2
theorem Qoy {M:Mem} {cv:Value} {v:V} (h:M.Ref cv v):∃id,refs1 v=[id]/\(M.μ id).isSome=true:=by
 have h2:=h.2
 cases v<;>simp only [Mem.Ref1] at h2<;>try exact h2.elim
 ·exact ⟨_,rfl,h2.1⟩
 ·exact ⟨_,rfl,h2.1.1⟩
 ·exact ⟨_,rfl,h2.1.1⟩
 ·exact ⟨_,rfl,h2.1.1⟩
section
variable {M0 M M1:Mem} {S S1:Store} {base n:Nat} {ks:List Nat}
def Q2 (M:Mem) (n:Nat) (S2:Store):Mem:={M with μ:=λid=>if id<n then M.μ id else none,S:=λid=>S2.getD id .dead}
theorem normM_S (hi:M.is S) (id:Nat):(Q2 M n (Q4 base n ks S 0 (S.take n))).S id=.dead\/(id<n/\∃old,(id<base->old=true)/\(Q2 M n (Q4 base n ks S 0 (S.take n))).S id=normBlk base n S old (M.S id)):=by
 simp only [Q2,Zl,(Qdr base n ks S (S.take n) 0).2 id,Z78,Z18,hi id]
 by_cases hlt:id<n
 ·simp only [hlt,if_true,true_and]
  cases hk:S[id]? with
  |none=>exact .inl rfl
  |
   some b=>
   simp only [Option.map_some,Z52]
   cases hb:Nat.blt id base with
   |true=>exact .inr ⟨true,λ_=>rfl,rfl⟩
   |
    false=>
    simp only [Zc]
    split
    ·exact .inr ⟨false,λh=>by have:=Qh6.2 h;rw [hb] at this;simp at this,rfl⟩
    ·exact .inl rfl
 ·simp [hlt]
theorem Qsu (hi:M.is S) (hbn:base<=n) {id:Nat} (h:id<base):(Q2 M n (Q4 base n ks S 0 (S.take n))).S id=normBlk base n S true (M.S id):=by
 simp only [Q2,Zl,(Qdr base n ks S (S.take n) 0).2 id,Z78,Z18,hi id]
 have hb:Nat.blt id base=true:=Qh6.2 h
 rw [if_pos (by omega)]
 cases hk:S[id]? with
 |none=>rfl
 |some b=>simp only [Option.map_some,Z52,hb,Zd]
theorem Qrz {id ver:Nat} (h:cur S id ver=true):verB (S.getD id .dead)=some ver:=by
 unfold cur at h
 split at h
 ·rename_i e;rw [e];simpa [verB] using h
 ·rename_i e;rw [e];simpa [verB] using h
 ·simp at h
theorem Qn0 (hi:M.is S) {id ver:Nat} (hc:cur S id ver=true):verLe ((Q2 M n (Q4 base n ks S 0 (S.take n))).S id) (bif Nat.blt id base then ver else 0) /\
  ∀c,contentB ((Q2 M n (Q4 base n ks S 0 (S.take n))).S id) (bif Nat.blt id base then ver else 0)=some c->contentB (M.S id) ver=some c:=by
 have hv:=Qrz hc
 rw [<-hi id] at hv
 rcases normM_S (base:=base) (n:=n) (ks:=ks) hi id with h|⟨hlt,old,hold,h⟩
 ·rw [h];exact ⟨λv hv=>by simp [verB] at hv,λc hc=>by simp [contentB] at hc⟩
 ·rw [h]
  cases hb:Nat.blt id base with
  |
   true=>
   have:=hold (Qh6.1 hb);subst this
   simp only [Zd]
   exact ⟨λv hv'=>by rw [Qnz,hv] at hv';simp at hv';omega,λc hc=>by rwa [Qkf] at hc⟩
  |
   false=>
   simp only [Zc]
   refine ⟨λv _=>Z94 _,λc hc=>?_⟩
   cases hk:M.S id<;>rw [hk] at hc hv<;>simp [verB] at hv<;>simp [normBlk,contentB] at hc ⊢
   ·exact ⟨hv,hc.2⟩
   ·exact ⟨hv,hc.2⟩
theorem Qes (hi:M.is S) {cv:Value} {v:V} (h:Rep M cv v):Rep (Q2 M n (Q4 base n ks S 0 (S.take n))) cv (norm1 base n S v):=by
 have undef:∀{M:Mem} {cv:Value},Rep M cv .undef:=.imm (.undef _)
 have plain:(∀cv,¬M.Ref cv v)->(∀cs,v≠.agg cs)->(∀cs,v≠.tup cs)->(∀f cs,v≠.func f cs)->(∀t u,v≠.iface t u)->Rep0 M.O M.w cv v:=λh1 h2 h3 h4 h5=>by
  cases h with
  |imm h=>exact h
  |ref h=>exact (h1 _ h).elim
  |agg _ cs=>exact (h2 cs rfl).elim
  |tup _ cs=>exact (h3 cs rfl).elim
  |func f _ cs=>exact (h4 f cs rfl).elim
  |iface t _ u=>exact (h5 t u rfl).elim
 cases v<;>simp only [norm1]<;>try (first|exact undef|exact .imm (plain (λcv h=>h.2) (λ_ h=>by simp at h) (λ_ h=>by simp at h) (λ_ _ h=>by simp at h) (λ_ _ h=>by simp at h)))
 ·exact .imm (Qfr (v:=.ints _ _ _) (plain (λcv h=>h.2) (λ_ h=>by simp at h) (λ_ h=>by simp at h) (λ_ _ h=>by simp at h) (λ_ _ h=>by simp at h)) rfl)
 ·exact .imm (Qfr (v:=.strs _ _) (plain (λcv h=>h.2) (λ_ h=>by simp at h) (λ_ h=>by simp at h) (λ_ _ h=>by simp at h) (λ_ _ h=>by simp at h)) rfl)
 ·exact .imm (Qfr (v:=.recs _ _ _) (plain (λcv h=>h.2) (λ_ h=>by simp at h) (λ_ h=>by simp at h) (λ_ _ h=>by simp at h) (λ_ _ h=>by simp at h)) rfl)
 ·rename_i id off
  split
  ·rename_i hlt
   obtain ⟨h1,h2,h3⟩:=Ya h
   refine .ref ⟨h1,?_,λhf=>?_⟩
   ·simp only [Q2,hlt,if_true];exact h2
   ·have hμ:(Q2 M n (Q4 base n ks S 0 (S.take n))).μ id=M.μ id:=by simp only [Q2,hlt,if_true]
    rw [hμ]
    refine h3 ?_
    rcases normM_S (base:=base) (n:=n) (ks:=ks) hi id with h|⟨_,old,_,h⟩
    ·rw [h] at hf;simp [Blk.fix] at hf
    ·rwa [h,Qnh] at hf
  ·exact undef
 ·rename_i id ver
  split
  ·rename_i hlt
   split
   ·rename_i hc
    obtain ⟨h1,⟨h2,h3⟩,h4⟩:=W0 h
    obtain ⟨h5,h6⟩:=Qn0 (base:=base) (n:=n) (ks:=ks) hi hc
    have hμ:(Q2 M n (Q4 base n ks S 0 (S.take n))).μ id=M.μ id:=by simp only [Q2,hlt,if_true]
    refine .ref ⟨h1,⟨by rw [hμ];exact h2,h5⟩,λc hcc=>?_⟩
    rw [hμ];exact h4 c (h6 c hcc)
   ·exact undef
  ·exact undef
 ·rename_i id ver lo k
  split
  ·rename_i hlt
   split
   ·rename_i hc
    obtain ⟨h1,⟨h2,h3⟩,h4⟩:=W7 h
    obtain ⟨h5,h6⟩:=Qn0 (base:=base) (n:=n) (ks:=ks) hi hc
    have hμ:(Q2 M n (Q4 base n ks S 0 (S.take n))).μ id=M.μ id:=by simp only [Q2,hlt,if_true]
    refine .ref ⟨h1,⟨by rw [hμ];exact h2,h5⟩,λc hcc=>?_⟩
    rw [hμ];exact h4 c (h6 c hcc)
   ·exact undef
  ·exact undef
 ·rename_i f cs
  cases cs with
  |
   nil=>
   obtain ⟨cvs,rfl,hl,_⟩:=Qau h
   have:cvs = #[]:=by simpa using hl
   subst this;exact .imm (.func f)
  |cons=>exact undef
theorem Qvf (hi:M.is S) {cv:Value} {v:V} (h:Rep M cv v):Rep (Q2 M n (Q4 base n ks S 0 (S.take n))) cv (Qmb base n S v):=by
 cases v with
 |
  agg cs=>
  obtain ⟨cvs,rfl,hl,ho,hr⟩:=Wp h
  exact .agg cvs _ (by simpa using hl) (λj hj=>ho j (by simpa using hj)) λj hj=>by
   rw [Z20];exact Qes hi (hr j (by simpa using hj))
 |
  func f cs=>
  obtain ⟨cvs,rfl,hl,hr⟩:=Qau h
  exact .func f cvs _ (by simpa using hl) λj hj=>by
   rw [Z20];exact Qes hi (hr j (by simpa using hj))
 |_=>exact Qes hi h
theorem Qyy (hM:M.ok) (hi:M.is S):(Q2 M n (Q4 base n ks S 0 (S.take n))).ok where
 blk id loc h:=by
  have hμ:id<n/\M.μ id=some loc:=by
   simp only [Q2] at h
   split at h
   ·exact ⟨‹_›,h⟩
   ·simp at h
  have hB:=hM.blk id loc hμ.2
  rcases normM_S (base:=base) (n:=n) (ks:=ks) hi id with h|⟨_,old,_,h⟩
  ·rw [h];trivial
  ·rw [h]
   cases hk:M.S id<;>rw [hk] at hB<;>simp only [normBlk]
   ·obtain ⟨b,o,cap,h1,h2,h3,hsh,h4⟩:=hB
    refine ⟨b,o,cap,h1,h2,h3,⟨hsh.1,by simpa [Q2] using hsh.2⟩,λj hj=>?_⟩
    obtain ⟨cv,h5,h6,h7,h8⟩:=h4 j (by simpa using hj)
    exact ⟨cv,h5,h6,by rw [Z20];exact Qes hi h7,h8⟩
   ·exact hB
   ·exact hB
   ·exact hB
   ·trivial
 inj id id' b o o' cap cap' h1 h2 h3 h4:=by
  have key:∀i,((Q2 M n (Q4 base n ks S 0 (S.take n))).S i).own=true->(M.S i).own=true:=λi h=>by
   rcases normM_S (base:=base) (n:=n) (ks:=ks) hi i with e|⟨_,old,_,e⟩
   ·rw [e] at h;simp [Blk.own] at h
   ·rwa [e,Qqk] at h
  have key2:∀i l,(Q2 M n (Q4 base n ks S 0 (S.take n))).μ i=some l->M.μ i=some l:=λi l h=>by
   simp only [Q2] at h
   split at h
   ·exact h
   ·simp at h
  exact hM.inj id id' b o o' cap cap' (key id h1) (key id' h2) (key2 _ _ h3) (key2 _ _ h4)
 low:=hM.low
theorem Qxa (hb:∀id,(M0.μ id).isSome=true->id<base) (hbn:base<=n) (hi:M.is S) (hst:Step M0 M):Step M0 (Q2 M n (Q4 base n ks S 0 (S.take n))) where
 size:=hst.size
 os:=hst.os
 tape:=hst.tape
 output:=hst.output
 keep:=hst.keep
 osub:=hst.osub
 own' b hlt h:=by
  refine hst.own' b hlt ?_
  obtain ⟨id,o,cap,h1,h2⟩:=h
  refine ⟨id,o,cap,?_,?_⟩
  ·rcases normM_S (base:=base) (n:=n) (ks:=ks) hi id with e|⟨_,old,_,e⟩
   ·rw [e] at h1;simp [Blk.own] at h1
   ·rwa [e,Qqk] at h1
  ·simp only [Q2] at h2
   split at h2
   ·exact h2
   ·simp at h2
 refs cv v h:=by
  obtain ⟨id,hid,hsome⟩:=Qoy h
  have hlt:=hb id hsome
  have h1:=Qsu (ks:=ks) hi hbn hlt
  refine Qb5 id ?_ (λver=>?_) ?_ ?_ hid (hst.refs cv v h)
  ·simp only [Q2];rw [if_pos (by omega)]
  ·rw [h1,Qkf]
  ·rw [h1,Qnz]
  ·rw [h1,Qnh]
theorem keepEnv_get (keep:List Nat):∀(env:Env) (i:Nat),(Yi keep i env).length=env.length/\∀k (h:k<(Yi keep i env).length) (h':k<env.length),(Yi keep i env)[k]=env[k]\/(Yi keep i env)[k]=.undef
 |[],i=>⟨rfl,λk h=>by simp [Yi] at h⟩
 |
  v::vs,i=>by
  obtain ⟨h1,h2⟩:=keepEnv_get keep vs (i+1)
  refine ⟨by simp [Yi,h1],λk h h'=>?_⟩
  cases k with
  |
   zero=>
   simp only [Yi,Z41]
   split
   ·exact .inl rfl
   ·exact .inr rfl
  |succ k=>simpa [Yi] using h2 k (by simpa [Yi] using h) (by simpa using h')
theorem Qeu (keep:List Nat×List Nat×List Nat) (hb:∀id,(M0.μ id).isSome=true->id<base) (hbn:base<=n) (hst:Step M0 M) (hN:Now M S) {tmps:Array Value} {env:Env} (he:Qy M tmps env) :
  ∃M':Mem,M'.w=M.w/\Step M0 M'/\Now M' (norm base n keep env S).2/\Qy M' tmps (norm base n keep env S).1/\(norm base n keep env S).2.length=min n S.length:=by
 obtain ⟨M1,hf⟩:=Qcb (keep.2.2.map λt=>env.getD t .undef) hN.ok hN.is
 have hN1:=hf.now hN
 have he1:Qy M1 tmps (immSlots keep.2.2 env S):=Qkl hN1.ok hN1.is hf.content keep.2.2 env (hf.step.env hN.ok he) λt ht=>by
  have hm:∀u∈cellsOf (env.getD t .undef),still (Wa S (keep.2.2.map λt=>env.getD t .undef)) u:=λu hu=>Qcd _ (.inr ⟨_,List.mem_map_of_mem ht,hu⟩)
  by_cases ha:∃cs,env.getD t .undef=.agg cs
  ·obtain ⟨cs,h⟩:=ha;rw [h];trivial
  ·exact hm _ (by cases h:env.getD t .undef<;>simp [cellsOf]<;>exact (ha ⟨_,h⟩).elim)
 refine ⟨Q2 M1 n (Q4 base n keep.2.1 (Wa S (keep.2.2.map λt=>env.getD t .undef)) 0 ((Wa S (keep.2.2.map λt=>env.getD t .undef)).take n)),hf.w,Qxa hb hbn hN1.is (hst.trans hf.step),⟨Qyy hN1.ok hN1.is,λid=>rfl,λid hid=>?_⟩,⟨?_,λt ht=>?_⟩,?_⟩
 ·simp only [norm,Qcg,(Qdr base n _ _ _ _).1,Z8,hf.len] at hid
  simp only [Q2]
  split
  ·exact hN1.fresh id (by rw [hf.len];omega)
  ·rfl
 ·simp only [norm,Qcg,Z13,(keepEnv_get _ _ _).1];exact he1.1
 ·simp only [norm,Qcg,Z20]
  have hlen:=(keepEnv_get keep.1 (immSlots keep.2.2 env S) 0).1
  have ht':t<(Yi keep.1 0 (immSlots keep.2.2 env S)).length:=by simpa [norm,Qcg] using ht
  rcases (keepEnv_get keep.1 (immSlots keep.2.2 env S) 0).2 t ht' (by omega) with h|h
  ·rw [h];exact Qvf hN1.is (he1.2 t (by omega))
  ·rw [h];exact .imm (.undef _)
 ·simp only [norm,Qcg,(Qdr base n _ _ _ _).1,Z8,hf.len]
end
theorem Qjy {f t:Nat} {b:Blk}:(renB f t b).own=b.own:=by cases b<;>rfl
theorem Qck {f t:Nat} {b:Blk}:(renB f t b).fix=b.fix:=by cases b<;>rfl
theorem Qap {f t:Nat} {b:Blk} (ver:Nat):contentB (renB f t b) ver=contentB b ver:=by cases b<;>rfl
theorem Qaj {f t:Nat} {b:Blk}:verB (renB f t b)=verB b:=by cases b<;>rfl
section
variable {M0 M:Mem} {S:Store} {base f t:Nat}
def renM (M:Mem) (f t:Nat) (S2:Store):Mem:={M with μ:=λid=>if id=f then none else if id=t then M.μ f else M.μ id,S:=λid=>S2.getD id .dead}
theorem Qlp:(renS f t S).length=S.length:=by simp [renS]
theorem Qgo (hf:f<S.length) (ht:t<S.length) (hne:f≠t) (id:Nat):(renS f t S).getD id .dead=if id=f then .dead else if id=t then renB f t (S.getD f .dead) else renB f t (S.getD id .dead):=by
 unfold renS
 rw [getD_set_store (by simpa using hf)]
 by_cases h:id=f
 ·rw [if_pos h,if_pos h]
 ·rw [if_neg h,if_neg h,getD_set_store (by simpa using ht)]
  by_cases h':id=t
  ·rw [if_pos h',if_pos h']
  ·rw [if_neg h',if_neg h']
   simp only [Zl,List.getElem?_map]
   cases S[id]?<;>rfl
variable (hi:M.is S) (hf:f<S.length) (ht:t<S.length) (hne:f≠t)
include hi hf ht hne
theorem renM_f:(renM M f t (renS f t S)).S f=.dead/\(renM M f t (renS f t S)).μ f=none:=by
 refine ⟨?_,by simp [renM]⟩
 show (renS f t S).getD f .dead=_
 rw [Qgo hf ht hne,if_pos rfl]
theorem renM_t:(renM M f t (renS f t S)).S t=renB f t (M.S f)/\(renM M f t (renS f t S)).μ t=M.μ f:=by
 refine ⟨?_,by simp [renM,Ne.symm hne]⟩
 show (renS f t S).getD t .dead=_
 rw [Qgo hf ht hne,if_neg (Ne.symm hne),if_pos rfl,hi f]
theorem Qa2 {id:Nat} (h1:id≠f) (h2:id≠t):(renM M f t (renS f t S)).S id=renB f t (M.S id)/\(renM M f t (renS f t S)).μ id=M.μ id:=by
 refine ⟨?_,by simp [renM,h1,h2]⟩
 show (renS f t S).getD id .dead=_
 rw [Qgo hf ht hne,if_neg h1,if_neg h2,hi id]
theorem Qee {cv:Value} {v:V} (h:Rep M cv v):Rep (renM M f t (renS f t S)) cv (ren1 f t v):=by
 have undef:∀{M:Mem} {cv:Value},Rep M cv .undef:=.imm (.undef _)
 obtain ⟨t1,t2⟩:=renM_t hi hf ht hne
 have plain:(∀cv,¬M.Ref cv v)->(∀cs,v≠.agg cs)->(∀cs,v≠.tup cs)->(∀f cs,v≠.func f cs)->(∀t u,v≠.iface t u)->Rep0 M.O M.w cv v:=λh1 h2 h3 h4 h5=>by
  cases h with
  |imm h=>exact h
  |ref h=>exact (h1 _ h).elim
  |agg _ cs=>exact (h2 cs rfl).elim
  |tup _ cs=>exact (h3 cs rfl).elim
  |func f _ cs=>exact (h4 f cs rfl).elim
  |iface t _ u=>exact (h5 t u rfl).elim
 cases v<;>simp only [ren1]<;>try (first|exact undef|exact .imm (plain (λcv h=>h.2) (λ_ h=>by simp at h) (λ_ h=>by simp at h) (λ_ _ h=>by simp at h) (λ_ _ h=>by simp at h)))
 ·rename_i id off
  have h0:=Ya h
  split
  ·rename_i e;subst e
   refine .ref ⟨h0.1,?_⟩
   have h2:=h0.2
   simp only [Mem.Ref1,t1,t2,Qck] at h2 ⊢
   exact h2
  ·rename_i e
   split
   ·exact undef
   ·rename_i e'
    obtain ⟨i1,i2⟩:=Qa2 hi hf ht hne e e'
    exact .ref (Qb5 id i2 (λver=>by rw [i1,Qap]) (by rw [i1,Qaj]) (by rw [i1,Qck]) rfl h0)
 ·rename_i id ver ix off
  have h0:=Qdm h
  split
  ·rename_i e;subst e
   refine .ref ⟨h0.1,?_⟩
   have h2:=h0.2
   simp only [Mem.Ref1,verLe,t1,t2,Qap,Qaj] at h2 ⊢
   exact h2
  ·rename_i e
   split
   ·exact undef
   ·rename_i e'
    obtain ⟨i1,i2⟩:=Qa2 hi hf ht hne e e'
    exact .ref (Qb5 id i2 (λver=>by rw [i1,Qap]) (by rw [i1,Qaj]) (by rw [i1,Qck]) rfl h0)
 ·rename_i id ver
  have h0:=W0 h
  split
  ·rename_i e;subst e
   refine .ref ⟨h0.1,?_⟩
   have h2:=h0.2
   simp only [Mem.Ref1,verLe,t1,t2,Qap,Qaj] at h2 ⊢
   exact h2
  ·rename_i e
   split
   ·exact undef
   ·rename_i e'
    obtain ⟨i1,i2⟩:=Qa2 hi hf ht hne e e'
    exact .ref (Qb5 id i2 (λver=>by rw [i1,Qap]) (by rw [i1,Qaj]) (by rw [i1,Qck]) rfl h0)
 ·rename_i id ver lo len
  have h0:=W7 h
  split
  ·rename_i e;subst e
   refine .ref ⟨h0.1,?_⟩
   have h2:=h0.2
   simp only [Mem.Ref1,verLe,t1,t2,Qap,Qaj] at h2 ⊢
   exact h2
  ·rename_i e
   split
   ·exact undef
   ·rename_i e'
    obtain ⟨i1,i2⟩:=Qa2 hi hf ht hne e e'
    exact .ref (Qb5 id i2 (λver=>by rw [i1,Qap]) (by rw [i1,Qaj]) (by rw [i1,Qck]) rfl h0)
 ·rename_i g cs
  cases cs with
  |
   nil=>
   obtain ⟨cvs,rfl,hl,_⟩:=Qau h
   have:cvs = #[]:=by simpa using hl
   subst this;exact .imm (.func g)
  |cons=>exact undef
theorem Qzm {cv:Value} {v:V} (h:Rep M cv v):Rep (renM M f t (renS f t S)) cv (Qhs f t v):=by
 cases v with
 |
  agg cs=>
  obtain ⟨cvs,rfl,hl,ho,hr⟩:=Wp h
  exact .agg cvs _ (by simpa using hl) (λj hj=>ho j (by simpa using hj)) λj hj=>by
   rw [Z20];exact Qee hi hf ht hne (hr j (by simpa using hj))
 |
  func g cs=>
  obtain ⟨cvs,rfl,hl,hr⟩:=Qau h
  exact .func g cvs _ (by simpa using hl) λj hj=>by
   rw [Z20];exact Qee hi hf ht hne (hr j (by simpa using hj))
 |_=>exact Qee hi hf ht hne h
theorem renM_src (id:Nat):((renM M f t (renS f t S)).S id=.dead/\(renM M f t (renS f t S)).μ id=none)\/(id≠f/\(renM M f t (renS f t S)).S id=renB f t (M.S (if id=t then f else id))/\(renM M f t (renS f t S)).μ id=M.μ (if id=t then f else id)):=by
 by_cases h1:id=f
 ·subst h1;exact .inl (renM_f hi hf ht hne)
 ·refine .inr ⟨h1,?_⟩
  by_cases h2:id=t
  ·subst h2;rw [if_pos rfl];exact renM_t hi hf ht hne
  ·rw [if_neg h2];exact Qa2 hi hf ht hne h1 h2
theorem Qq7 (hM:M.ok):(renM M f t (renS f t S)).ok where
 blk id loc h:=by
  rcases renM_src hi hf ht hne id with ⟨_,h2⟩|⟨_,h1,h2⟩
  ·rw [h2] at h;simp at h
  ·rw [h1];rw [h2] at h
   have hB:=hM.blk _ loc h
   cases hk:M.S (if id=t then f else id)<;>rw [hk] at hB<;>simp only [renB]
   ·obtain ⟨b,o,cap,h1,h2,h3,hsh,h4⟩:=hB
    refine ⟨b,o,cap,h1,h2,h3,⟨hsh.1,by simpa [renM] using hsh.2⟩,λj hj=>?_⟩
    obtain ⟨cv,h5,h6,h7,h8⟩:=h4 j (by simpa using hj)
    exact ⟨cv,h5,h6,by rw [Z20];exact Qee hi hf ht hne h7,h8⟩
   ·exact hB
   ·exact hB
   ·exact hB
   ·trivial
 inj id id' b o o' cap cap' h1 h2 h3 h4:=by
  rcases renM_src hi hf ht hne id with ⟨_,e⟩|⟨n1,s1,m1⟩
  ·rw [e] at h3;simp at h3
  rcases renM_src hi hf ht hne id' with ⟨_,e⟩|⟨n2,s2,m2⟩
  ·rw [e] at h4;simp at h4
  rw [s1,Qjy] at h1;rw [s2,Qjy] at h2;rw [m1] at h3;rw [m2] at h4
  have:=hM.inj _ _ b o o' cap cap' h1 h2 h3 h4
  by_cases e1:id=t
  ·by_cases e2:id'=t
   ·rw [e1,e2]
   ·rw [if_pos e1,if_neg e2] at this;exact absurd this.symm n2
  ·by_cases e2:id'=t
   ·rw [if_neg e1,if_pos e2] at this;exact absurd this n1
   ·rwa [if_neg e1,if_neg e2] at this
 low:=hM.low
theorem Qzx (hb:∀id,(M0.μ id).isSome=true->id<base) (hbf:base<=f) (hbt:base<=t) (hst:Step M0 M):Step M0 (renM M f t (renS f t S)) where
 size:=hst.size
 os:=hst.os
 tape:=hst.tape
 output:=hst.output
 keep:=hst.keep
 osub:=hst.osub
 own' b hlt h:=by
  refine hst.own' b hlt ?_
  obtain ⟨id,o,cap,h1,h2⟩:=h
  rcases renM_src hi hf ht hne id with ⟨_,e⟩|⟨n1,s1,m1⟩
  ·rw [e] at h2;simp at h2
  ·exact ⟨_,o,cap,by rw [s1,Qjy] at h1;exact h1,by rw [m1] at h2;exact h2⟩
 refs cv v h:=by
  obtain ⟨id,hid,hsome⟩:=Qoy h
  have hlt:=hb id hsome
  obtain ⟨i1,i2⟩:=Qa2 hi hf ht hne (id:=id) (by omega) (by omega)
  exact Qb5 id i2 (λver=>by rw [i1,Qap]) (by rw [i1,Qaj]) (by rw [i1,Qck]) hid (hst.refs cv v h)
end
theorem Qfc {M0:Mem} {base:Nat} (hb:∀id,(M0.μ id).isSome=true->id<base) {tmps:Array Value}:∀(mv:List (Nat×Nat)) {M:Mem} {S:Store} {env:Env},Step M0 M->Now M S->Qy M tmps env ->
  ∃M':Mem,M'.w=M.w/\Step M0 M'/\Now M' (Ju base mv env S).2/\Qy M' tmps (Ju base mv env S).1/\(Ju base mv env S).2.length=S.length
 |[],M,S,env,hst,hN,he=>⟨M,rfl,hst,hN,he,rfl⟩
 |
  (s,k)::r,M,S,env,hst,hN,he=>by
  unfold Ju
  split
  ·rename_i f _
   split
   ·rename_i hc
    obtain ⟨hne,hbf,hf,ht⟩:=hc
    obtain ⟨M',h1,h2,h3,h4,h5⟩:=Qfc hb r (M:=renM M f (base+k) (renS f (base+k) S)) (S:=renS f (base+k) S) (env:=env.map (Qhs f (base+k))) (Qzx hN.is hf ht hne hb hbf (by omega) hst)
     ⟨Qq7 hN.is hf ht hne hN.ok,λid=>rfl,λid hid=>by
      rw [Qlp] at hid
      have:=Qa2 hN.is hf ht hne (id:=id) (by omega) (by omega)
      rw [this.2];exact hN.fresh id hid⟩
     ⟨by rw [Z13];exact he.1,λu hu=>by
      rw [Z20];exact Qzm hN.is hf ht hne (he.2 u (by simpa using hu))⟩
    exact ⟨M',h1,h2,h3,h4,by rw [h5,Qlp]⟩
   ·exact Qfc hb r hst hN he
  ·exact Qfc hb r hst hN he
def Qej:X->Exit
 |.normal=>.normal
 |.exit i=>.exit i
 |.ret=>.ret
 |.goto l=>.goto l
def LPack.sound (G:(Env×Store->Option Out)->Env×Store->Option Out) (st:Env×Store):LPack->Prop
 |.one σ m out=>∀o,m=some o->∃N,We G N st=some (out o)
 |.two σ τ m out out'=>∀o,m=some o->∃N,We G N st=some (match o with | .inl o=>out o | .inr o=>out' o)
theorem orP_some {a b:Option LPack} {p:LPack} (h:orP a b=some p):a=some p\/b=some p:=by
 cases a with
 |none=>exact .inr h
 |some q=>exact .inl h
def LoopsOK (C:Ctx) (I:InlP) (fid base:Nat) (body:Code):Prop:=
 ∀id b,(id,b)∈loopList body->∀st p,C.L fid id base st=some p->p.sound (C.loopG (I Out) fid id base b st.2.length) st
section
variable {P:Program} {C:Ctx} {I:InlP} {M0:Mem} {base fid:Nat}
def J4 (M0:Mem) (base:Nat) (a:Act) (e:X) (env':Env) (S':Store) (Q:Exit->Act->World->Prop):Prop:=
 ∀a' M',Step M0 M'->Now M' S'->Qy M' a'.tmps env'->a'.defers=a.defers->base<=S'.length->Q (Qej e) a' M'.w
def Yw (P:Program) (C:Ctx) (I:InlP) (M0:Mem) (fid base:Nat) (c:Code):Prop:=
 ∀
  (env:Env) (S:Store) (a:Act) (M:Mem) (Q:Exit->Act->World->Prop) (e:X) (env':Env) (S':Store),Step M0 M->Now M S->Qy M a.tmps env->base<=S.length ->
  C.evK (I Out) fid base c env S KK=some (e,env',S')->J4 M0 base a e env' S' Q->c.wp P Q a M.w
theorem Qqi (hC:Wc P C) (hI:InlOK P C I) (id:Nat) (ops:Array Oper) (draw:Bool):Yw P C I M0 fid base (.region id ops draw):=by
 intro env S a M Q e env' S' hst hN he hbl h hQ
 simp only [Ctx.evK] at h
 cases draw<;>simp only [Zd,Zc] at h
 ·rw [Qc8 hI] at h
  cases hev:C.evOps (I (Env×Store)) false ops ops.toList env S λe s=>some (e,s) with
  |none=>rw [hev] at h;simp at h
  |
   some p=>
   rw [hev] at h
   simp only [Zb,KK,Zs,Z2] at h
   obtain ⟨rfl,rfl,rfl⟩:=h
   refine wp_region (Qhj hC hI ops.toList (List.range ops.size) env S a M ?_ hN he hev λa' M' h1 h2 h3 h4 h5=>hQ a' M' (hst.trans h1) h2 h3 h4 (by omega))
   apply List.ext_getElem
   ·simp
   ·intro i h1 h2
    have:i<ops.size:=by simpa using h1
    simp [this]
 ·split at h
  case isFalse=>simp at h
  rename_i hs
  rw [Qdx hI] at h
  cases hev:C.evOpsD (I (Env×Store)) ops (C.draws fid id) ops.toList 0 [] env S λe s=>some (e,s) with
  |none=>rw [hev] at h;simp at h
  |
   some p=>
   rw [hev] at h
   simp only [Zb,KK,Zs,Z2] at h
   obtain ⟨rfl,rfl,rfl⟩:=h
   exact Qyt hC hI hN he hs hev λa' M' h1 h2 h3 h4 h5=>hQ a' M' (hst.trans h1) h2 h3 h4 (by omega)
theorem Qdf {a:Act} {id:Nat} {x:X} {env1:Env} {S1:Store} {Q:Exit->Act->World->Prop} {e:X} {env':Env} {S':Store} (h:Kont.block id KK x env1 S1=some (e,env',S')) (hQ:J4 M0 base a e env' S' Q):J4 M0 base a x env1 S1 (Exit.inBlock id Q):=by
 intro a' M' h1 h2 h3 h4 h5
 cases x<;>simp only [Kont.block] at h
 ·simp only [KK,Zs,Z2] at h
  obtain ⟨rfl,rfl,rfl⟩:=h
  exact hQ a' M' h1 h2 h3 h4 h5
 ·rename_i i
  split at h
  ·rename_i hi
   simp only [KK,Zs,Z2] at h
   obtain ⟨rfl,rfl,rfl⟩:=h
   simp only [Qej,Exit.inBlock,hi,if_true]
   exact hQ a' M' h1 h2 h3 h4 h5
  ·rename_i hi
   simp only [KK,Zs,Z2] at h
   obtain ⟨rfl,rfl,rfl⟩:=h
   simp only [Qej,Exit.inBlock,hi,if_false]
   exact hQ a' M' h1 h2 h3 h4 h5
 ·simp only [KK,Zs,Z2] at h
  obtain ⟨rfl,rfl,rfl⟩:=h
  exact hQ a' M' h1 h2 h3 h4 h5
 ·simp only [KK,Zs,Z2] at h
  obtain ⟨rfl,rfl,rfl⟩:=h
  exact hQ a' M' h1 h2 h3 h4 h5
theorem Ji (hI:InlOK P C I) {id:Nat} {b:Code} (hb:Yw P C I M0 fid base b) {env:Env} {S:Store} {a:Act} {M:Mem} {Q:Exit->Act->World->Prop} {e:X} {env':Env} {S':Store} (hst:Step M0 M) (hN:Now M S) (he:Qy M a.tmps env) (hbl:base<=S.length)
  (h:C.evK (I Out) fid base b env S (Kont.block id KK)=some (e,env',S')) (hQ:J4 M0 base a e env' S' Q):(Code.block id b).wp P Q a M.w:=by
 rw [Qw hI] at h
 simp only [Bk,Z5] at h
 obtain ⟨⟨x,env1,S1⟩,h1,h2⟩:=h
 exact wp_block (hb env S a M _ x env1 S1 hst hN he hbl h1 (Qdf h2 hQ))
theorem Qni (hI:InlOK P C I) (hM0:∀id,(M0.μ id).isSome=true->id<base) {id n:Nat} (hbn:base<=n) {b:Code} (hb:Yw P C I M0 fid base b):∀(N:Nat) (env:Env) (S:Store) (a:Act) (M:Mem) (Q:Exit->Act->World->Prop) (e:X) (env':Env) (S':Store),Step M0 M->Now M S->Qy M a.tmps env->base<=S.length ->
  We (C.loopG (I Out) fid id base b n) N (env,S)=some (e,env',S')->J4 M0 base a e env' S' Q->Code.rounds P b Q N a M.w
 |0,env,S,a,M,Q,e,env',S',hst,hN,he,hbl,h,hQ=>by simp [We] at h
 |
  N+1,env,S,a,M,Q,e,env',S',hst,hN,he,hbl,h,hQ=>by
  simp only [We,Ctx.loopG,Ctx.loopPI] at h
  rw [Qw hI] at h
  simp only [Bk,Z5] at h
  obtain ⟨⟨x,env1,S1⟩,h1,h2⟩:=h
  rw [rounds_succ]
  refine hb env S a M _ x env1 S1 hst hN he hbl h1 λa' M' h3 h4 h5 h6 h7=>?_
  cases x with
  |
   normal=>
   obtain ⟨M3,k1,k2,k3,k4,k5⟩:=Qfc hM0 (C.moves fid id) h3 h4 h5
   obtain ⟨M2,g1,g2,g3,g4,g5⟩:=Qeu (C.keep fid id) hM0 hbn k2 k3 k4
   show Code.rounds P b Q N a' M'.w
   rw [<-k1,<-g1]
   exact Qni hI hM0 hbn hb N _ _ a' M2 Q e env' S' g2 g3 g4 (by rw [g5,k5];omega) h2 λa3 M3 k1 k2 k3 k4 k5=>hQ a3 M3 k1 k2 k3 (by rw [k4,h6]) k5
  |
   exit i=>
   obtain ⟨M2,g1,g2,g3,g4,g5⟩:=Qeu (C.keepE fid id) hM0 hbn h3 h4 h5
   simp only [Zs,Z2] at h2
   obtain ⟨rfl,h2⟩:=h2
   have e1:(norm base n (C.keepE fid id) env1 S1).1=env':=congrArg Prod.fst h2
   have e2:(norm base n (C.keepE fid id) env1 S1).2=S':=congrArg Prod.snd h2
   rw [e1] at g4;rw [e2] at g3 g5
   show Q (.exit i) a' M'.w
   rw [<-g1]
   exact hQ a' M2 g2 g3 g4 h6 (by rw [g5];omega)
  |
   ret=>
   obtain ⟨M2,g1,g2,g3,g4,g5⟩:=Qeu (C.keepR fid id) hM0 hbn h3 h4 h5
   simp only [Zs,Z2] at h2
   obtain ⟨rfl,h2⟩:=h2
   have e1:(norm base n (C.keepR fid id) env1 S1).1=env':=congrArg Prod.fst h2
   have e2:(norm base n (C.keepR fid id) env1 S1).2=S':=congrArg Prod.snd h2
   rw [e1] at g4;rw [e2] at g3 g5
   show Q .ret a' M'.w
   rw [<-g1]
   exact hQ a' M2 g2 g3 g4 h6 (by rw [g5];omega)
  |goto l=>simp at h2
def LPack.run (id:Nat):LPack->Option Out
 |.one _ m out=>m.bind λo=>Kont.block id KK (out o).1 (out o).2.1 (out o).2.2
 |
  .two _ _ m out out'=>m.bind λo=>match o with
  |.inl o=>Kont.block id KK (out o).1 (out o).2.1 (out o).2.2
  |.inr o=>Kont.block id KK (out' o).1 (out' o).2.1 (out' o).2.2
theorem LPack.sound_some {G:(Env×Store->Option Out)->Env×Store->Option Out} {st:Env×Store} {p:LPack} (h:p.sound G st) {id:Nat} {e:X} {env':Env} {S':Store}
  (hr:p.run id=some (e,env',S')) :
  ∃N x env1 S1,We G N st=some (x,env1,S1)/\Kont.block id KK x env1 S1=some (e,env',S'):=by
 cases p with
 |
  one σ m out=>
  simp only [LPack.run,Z5] at hr
  obtain ⟨o,h1,h2⟩:=hr
  obtain ⟨N,hN⟩:=h o h1
  exact ⟨N,_,_,_,hN,h2⟩
 |
  two σ τ m out out'=>
  simp only [LPack.run,Z5] at hr
  obtain ⟨o,h1,h2⟩:=hr
  obtain ⟨N,hN⟩:=h o h1
  cases o with
  |inl o=>exact ⟨N,_,_,_,hN,h2⟩
  |inr o=>exact ⟨N,_,_,_,hN,h2⟩
theorem Qlo (hI:InlOK P C I) {body:Code} (hL:LoopsOK C I fid base body) (hM0:∀id,(M0.μ id).isSome=true->id<base) {id:Nat} {b:Code} (hb:Yw P C I M0 fid base b) (hm:(id,b)∈loopList body):∀(n:Nat) (env:Env) (S:Store) (e:X) (env':Env) (S':Store),
  Qbf (λ(rec:Env×Store->Option Out) st=>C.evK (I Out) fid base b st.1 st.2 (Kont.seq (λenv' S'=>rec (env',S')) (Kont.block id KK)))
   (λst=>match C.L fid id base (norm base st.2.length (C.keep fid id) st.1 st.2) with
   |some (.one _ m out)=>m.bind λo=>Kont.block id KK (out o).1 (out o).2.1 (out o).2.2
   |
    some (.two _ _ m out out')=>m.bind λo=>match o with
    |.inl o=>Kont.block id KK (out o).1 (out o).2.1 (out o).2.2
    |.inr o=>Kont.block id KK (out' o).1 (out' o).2.1 (out' o).2.2
   |none=>none) n (env,S)=some (e,env',S') ->
  ∃N,∀(a:Act) (M:Mem) (Q:Exit->Act->World->Prop),Step M0 M->Now M S->Qy M a.tmps env->base<=S.length->J4 M0 base a e env' S' Q->Code.rounds P b (Exit.inBlock id Q) N a M.w
 |
  0,env,S,e,env',S',h=>by
  simp only [Qbf] at h
  have hp:∃p,C.L fid id base (norm base S.length (C.keep fid id) env S)=some p/\p.run id=some (e,env',S'):=by
   cases hl:C.L fid id base (norm base S.length (C.keep fid id) env S) with
   |none=>rw [hl] at h;simp at h
   |some p=>rw [hl] at h;exact ⟨p,rfl,by cases p<;>exact h⟩
  obtain ⟨p,hp,hr⟩:=hp
  obtain ⟨N,x,env1,S1,h1,h2⟩:=LPack.sound_some (hL id b hm _ p hp) hr
  refine ⟨N,λa M Q hst hN he hbl hQ=>?_⟩
  obtain ⟨M2,g1,g2,g3,g4,g5⟩:=Qeu (n:=S.length) (C.keep fid id) hM0 hbl hst hN he
  rw [g5,Nat.min_self] at h1
  rw [<-g1]
  exact Qni hI hM0 hbl hb N _ _ a M2 _ x env1 S1 g2 g3 g4 (by rw [g5];omega) h1 (Qdf h2 hQ)
 |
  n+1,env,S,e,env',S',h=>by
  simp only [Qbf] at h
  rw [Qw hI] at h
  simp only [Bk,Z5] at h
  obtain ⟨⟨x,env1,S1⟩,h1,h2⟩:=h
  cases x with
  |
   normal=>
   obtain ⟨N,hN'⟩:=Qlo hI hL hM0 hb hm n env1 S1 e env' S' h2
   refine ⟨N+1,λa M Q hst hN he hbl hQ=>?_⟩
   rw [rounds_succ]
   refine hb env S a M _ _ env1 S1 hst hN he hbl h1 λa' M' h3 h4 h5 h6 h7=>?_
   exact hN' a' M' Q h3 h4 h5 h7 λa2 M2 g1 g2 g3 g4 g5=>hQ a2 M2 g1 g2 g3 (by rw [g4,h6]) g5
  |
   exit i=>
   refine ⟨1,λa M Q hst hN he hbl hQ=>?_⟩
   rw [rounds_succ]
   refine hb env S a M _ _ env1 S1 hst hN he hbl h1 λa' M' h3 h4 h5 h6 h7=>?_
   exact Qdf (a:=a) (show Kont.block id KK (.exit i) env1 S1=_ from h2) hQ a' M' h3 h4 h5 h6 h7
  |
   ret=>
   refine ⟨1,λa M Q hst hN he hbl hQ=>?_⟩
   rw [rounds_succ]
   refine hb env S a M _ _ env1 S1 hst hN he hbl h1 λa' M' h3 h4 h5 h6 h7=>?_
   exact Qdf (a:=a) (show Kont.block id KK .ret env1 S1=_ from h2) hQ a' M' h3 h4 h5 h6 h7
  |
   goto l=>
   refine ⟨1,λa M Q hst hN he hbl hQ=>?_⟩
   rw [rounds_succ]
   refine hb env S a M _ _ env1 S1 hst hN he hbl h1 λa' M' h3 h4 h5 h6 h7=>?_
   exact Qdf (a:=a) (show Kont.block id KK (.goto l) env1 S1=_ from h2) hQ a' M' h3 h4 h5 h6 h7
theorem Qx4 (hI:InlOK P C I) {body:Code} (hL:LoopsOK C I fid base body) (hM0:∀id,(M0.μ id).isSome=true->id<base) {id:Nat} {b:Code} (hb:Yw P C I M0 fid base b) (hm:(id,b)∈loopList body):Yw P C I M0 fid base (.block id (.loop b)):=by
 intro env S a M Q e env' S' hst hN he hbl h hQ
 simp only [Ctx.evK] at h
 obtain ⟨N,hN'⟩:=Qlo hI hL hM0 hb hm _ env S e env' S' h
 exact wp_block (wp_loop_rounds N (hN' a M Q hst hN he hbl hQ))
theorem Wi (hC:Wc P C) (hI:InlOK P C I) {body:Code} (hL:LoopsOK C I fid base body) (hM0:∀id,(M0.μ id).isSome=true->id<base):∀(c:Code),(∀p∈loopList c,p∈loopList body)->Yw P C I M0 fid base c
 |
  .skip,hsub=>λenv S a M Q e env' S' hst hN he hbl h hQ=>by
  simp only [Ctx.evK,KK,Zs,Z2] at h
  obtain ⟨rfl,rfl,rfl⟩:=h
  exact wp_skip (hQ a M hst hN he rfl hbl)
 |
  .ret,hsub=>λenv S a M Q e env' S' hst hN he hbl h hQ=>by
  simp only [Ctx.evK,KK,Zs,Z2] at h
  obtain ⟨rfl,rfl,rfl⟩:=h
  exact wp_ret (hQ a M hst hN he rfl hbl)
 |
  .exit id,hsub=>λenv S a M Q e env' S' hst hN he hbl h hQ=>by
  simp only [Ctx.evK,KK,Zs,Z2] at h
  obtain ⟨rfl,rfl,rfl⟩:=h
  exact wp_exit (hQ a M hst hN he rfl hbl)
 |.region id ops draw,hsub=>Qqi hC hI id ops draw
 |
  .seq x y,hsub=>λenv S a M Q e env' S' hst hN he hbl h hQ=>by
  simp only [Ctx.evK] at h
  rw [Qw hI] at h
  simp only [Bk,Z5] at h
  obtain ⟨⟨e1,env1,S1⟩,h1,h2⟩:=h
  refine wp_seq (Wi hC hI hL hM0 x (λp hp=>hsub p (by simp [loopList,hp])) env S a M _ e1 env1 S1 hst hN he hbl h1 λa' M' h3 h4 h5 h6 h7=>?_)
  cases e1 with
  |normal=>exact Wi hC hI hL hM0 y (λp hp=>hsub p (by simp [loopList,hp])) env1 S1 a' M' Q e env' S' h3 h4 h5 h7 h2 λa2 M2 g1 g2 g3 g4 g5=>hQ a2 M2 g1 g2 g3 (by rw [g4,h6]) g5
  |
   exit i=>
   simp only [Kont.seq,KK,Zs,Z2] at h2
   obtain ⟨rfl,rfl,rfl⟩:=h2
   exact hQ a' M' h3 h4 h5 h6 h7
  |
   ret=>
   simp only [Kont.seq,KK,Zs,Z2] at h2
   obtain ⟨rfl,rfl,rfl⟩:=h2
   exact hQ a' M' h3 h4 h5 h6 h7
  |
   goto l=>
   simp only [Kont.seq,KK,Zs,Z2] at h2
   obtain ⟨rfl,rfl,rfl⟩:=h2
   exact hQ a' M' h3 h4 h5 h6 h7
 |
  .cond c t f,hsub=>λenv S a M Q e env' S' hst hN he hbl h hQ=>by
  simp only [Ctx.evK] at h
  split at h
  case h_2=>simp at h
  rename_i b hb
  have hc:=Qhy C he 0 c
  rw [hb] at hc
  refine wp_cond (Qan hc) ?_
  cases b<;>simp only [Zd,Zc] at h
  ·exact Wi hC hI hL hM0 f (λp hp=>hsub p (by simp [loopList,hp])) env S a M Q e env' S' hst hN he hbl h hQ
  ·exact Wi hC hI hL hM0 t (λp hp=>hsub p (by simp [loopList,hp])) env S a M Q e env' S' hst hN he hbl h hQ
 |.block id (.loop b),hsub=>Qx4 hI hL hM0 (Wi hC hI hL hM0 b λp hp=>hsub p (by simp [loopList,hp])) (hsub _ (by simp [loopList]))
 |.block id .skip,hsub=>λenv S a M Q e env' S' hst hN he hbl h hQ=>Ji (fid:=fid) hI (Wi hC hI hL hM0 .skip λp hp=>by simp [loopList] at hp) hst hN he hbl (show C.evK (I Out) fid base .skip env S (Kont.block id KK)=some (e,env',S') from h) hQ
 |.block id (.region i ops draw),hsub=>λenv S a M Q e env' S' hst hN he hbl h hQ=>Ji (fid:=fid) hI (Qqi hC hI i ops draw) hst hN he hbl (show C.evK (I Out) fid base (.region i ops draw) env S (Kont.block id KK)=some (e,env',S') from h) hQ
 |.block id (.seq x y),hsub=>λenv S a M Q e env' S' hst hN he hbl h hQ=>Ji (fid:=fid) hI (Wi hC hI hL hM0 (.seq x y) hsub) hst hN he hbl (show C.evK (I Out) fid base (.seq x y) env S (Kont.block id KK)=some (e,env',S') from h) hQ
 |.block id (.cond x y z),hsub=>λenv S a M Q e env' S' hst hN he hbl h hQ=>Ji (fid:=fid) hI (Wi hC hI hL hM0 (.cond x y z) hsub) hst hN he hbl (show C.evK (I Out) fid base (.cond x y z) env S (Kont.block id KK)=some (e,env',S') from h) hQ
 |.block id (.block i b),hsub=>λenv S a M Q e env' S' hst hN he hbl h hQ=>Ji (fid:=fid) hI (Wi hC hI hL hM0 (.block i b) hsub) hst hN he hbl (show C.evK (I Out) fid base (.block i b) env S (Kont.block id KK)=some (e,env',S') from h) hQ
 |.block id (.exit i),hsub=>λenv S a M Q e env' S' hst hN he hbl h hQ=>Ji (fid:=fid) hI (Wi hC hI hL hM0 (.exit i) λp hp=>by simp [loopList] at hp) hst hN he hbl (show C.evK (I Out) fid base (.exit i) env S (Kont.block id KK)=some (e,env',S') from h) hQ
 |.block id .ret,hsub=>λenv S a M Q e env' S' hst hN he hbl h hQ=>Ji (fid:=fid) hI (Wi hC hI hL hM0 .ret λp hp=>by simp [loopList] at hp) hst hN he hbl (show C.evK (I Out) fid base .ret env S (Kont.block id KK)=some (e,env',S') from h) hQ
 |.block id (.rangeFunc ..),hsub=>λenv S a M Q e env' S' hst hN he hbl h hQ=>by simp [Ctx.evK] at h
 |.block id (.scope c),hsub=>λenv S a M Q e env' S' hst hN he hbl h hQ=>Ji (fid:=fid) hI (Wi hC hI hL hM0 (.scope c) hsub) hst hN he hbl (show C.evK (I Out) fid base (.scope c) env S (Kont.block id KK)=some (e,env',S') from h) hQ
 |.block id (.label l),hsub=>λenv S a M Q e env' S' hst hN he hbl h hQ=>Ji (fid:=fid) hI (Wi hC hI hL hM0 (.label l) λp hp=>by simp [loopList] at hp) hst hN he hbl (show C.evK (I Out) fid base (.label l) env S (Kont.block id KK)=some (e,env',S') from h) hQ
 |.block id (.goto l),hsub=>λenv S a M Q e env' S' hst hN he hbl h hQ=>Ji (fid:=fid) hI (Wi hC hI hL hM0 (.goto l) λp hp=>by simp [loopList] at hp) hst hN he hbl (show C.evK (I Out) fid base (.goto l) env S (Kont.block id KK)=some (e,env',S') from h) hQ
 |.block id (.refuse ..),hsub=>λenv S a M Q e env' S' hst hN he hbl h hQ=>by simp [Ctx.evK] at h
 |.loop _,hsub=>λenv S a M Q e env' S' hst hN he hbl h hQ=>by simp [Ctx.evK] at h
 |.rangeFunc ..,hsub=>λenv S a M Q e env' S' hst hN he hbl h hQ=>by simp [Ctx.evK] at h
 |
  .scope c,hsub=>λenv S a M Q e env' S' hst hN he hbl h hQ=>by
  simp only [Ctx.evK] at h
  rw [Qw hI] at h
  simp only [Bk,Z5] at h
  obtain ⟨⟨x,env1,S1⟩,h1,h2⟩:=h
  refine wp_scope_straight (Wi hC hI hL hM0 c hsub env S a M _ x env1 S1 hst hN he hbl h1 λa' M' h3 h4 h5 h6 h7=>?_)
  cases x<;>simp only [Kont.noGoto,KK,Zs,Z2] at h2<;>try (simp at h2;done)
  all_goals
   obtain ⟨rfl,rfl,rfl⟩:=h2
   exact hQ a' M' h3 h4 h5 h6 h7
 |
  .label l,hsub=>λenv S a M Q e env' S' hst hN he hbl h hQ=>by
  simp only [Ctx.evK,KK,Zs,Z2] at h
  obtain ⟨rfl,rfl,rfl⟩:=h
  exact wp_label (hQ a M hst hN he rfl hbl)
 |
  .goto l,hsub=>λenv S a M Q e env' S' hst hN he hbl h hQ=>by
  simp only [Ctx.evK,KK,Zs,Z2] at h
  obtain ⟨rfl,rfl,rfl⟩:=h
  exact wp_goto (hQ a M hst hN he rfl hbl)
 |.refuse _,hsub=>λenv S a M Q e env' S' hst hN he hbl h hQ=>by simp [Ctx.evK] at h
termination_by c=>SizeOf.sizeOf c
def Qbq (P:Program) (rest:Code) (Q:Exit->Act->World->Prop):Nat->Exit->Act->World->Prop
 |0,.goto _,_,_=>False
 |n+1,.goto l,a,w=>l=0/\rest.wp P (Qbq P rest Q n) a w
 |_,e,a,w=>Q e a w
theorem Qrw {rest:Code} {Q:Exit->Act->World->Prop} {n:Nat} {e:Exit} {a:Act} {w:World} (he:∀l,e≠.goto l) (h:Q e a w):Qbq P rest Q n e a w:=by
 cases n<;>cases e<;>first|exact h|exact (he _ rfl).elim
theorem Qd5 {rest:Code} {Q:Exit->Act->World->Prop} {n:Nat} {e:Exit} {a:Act} {w:World} (he:∀l,e≠.goto l) (h:Qbq P rest Q n e a w):Q e a w:=by
 cases n<;>cases e<;>first|exact h|exact (he _ rfl).elim
theorem Qts {c rest:Code} {Q:Exit->Act->World->Prop} (hf:findLabel c 0=some rest) {n:Nat} {a:Act} {w:World} (h:c.wp P (Qbq P rest Q n) a w):(Code.scope c).wp P Q a w:=by
 intro b k cs
 have hg:gotoIn 0 (.inScope c::k)=some (.code rest :: .inScope c::k):=by simp [gotoIn,hf]
 have key:∀n a w,rest.wp P (Qbq P rest Q n) a w->∃e a' w',Q e a' w'/\Arrives P (lone (b.at a (.code rest :: .inScope c::k)) cs w) b k cs e a' w':=by
  intro n
  induction n with
  |
   zero=>
   intro a w h
   obtain ⟨e,a₁,w₁,hq,harr⟩:=h b (.inScope c::k) cs
   cases e with
   |normal=>exact ⟨.normal,a₁,w₁,hq,Steps.trans harr (.one step_inScope)⟩
   |exit id=>exact ⟨.exit id,a₁,w₁,hq,λk' hk=>harr k' (by simp [exitTo,hk])⟩
   |goto l'=>exact hq.elim
   |ret=>exact ⟨_,a₁,w₁,hq,harr⟩
   |panic ch=>exact ⟨_,a₁,w₁,hq,harr⟩
   |outgrown=>exact ⟨_,a₁,w₁,hq,harr⟩
  |
   succ n ih=>
   intro a w h
   obtain ⟨e,a₁,w₁,hq,harr⟩:=h b (.inScope c::k) cs
   cases e with
   |normal=>exact ⟨.normal,a₁,w₁,hq,Steps.trans harr (.one step_inScope)⟩
   |exit id=>exact ⟨.exit id,a₁,w₁,hq,λk' hk=>harr k' (by simp [exitTo,hk])⟩
   |
    goto l'=>
    obtain ⟨rfl,hJ⟩:=hq
    obtain ⟨e₂,a₂,w₂,hq₂,harr₂⟩:=ih a₁ w₁ hJ
    exact ⟨e₂,a₂,w₂,hq₂,.of_steps (harr _ hg) harr₂⟩
   |ret=>exact ⟨_,a₁,w₁,hq,harr⟩
   |panic ch=>exact ⟨_,a₁,w₁,hq,harr⟩
   |outgrown=>exact ⟨_,a₁,w₁,hq,harr⟩
 obtain ⟨e,a₁,w₁,hq,harr⟩:=h b (.inScope c::k) cs
 cases e with
 |normal=>exact ⟨.normal,a₁,w₁,Qd5 (by simp) hq,.head step_scope (Steps.trans harr (.one step_inScope))⟩
 |exit id=>exact ⟨.exit id,a₁,w₁,Qd5 (by simp) hq,λk' hk=>.head step_scope (harr k' (by simp [exitTo,hk]))⟩
 |
  goto l'=>
  cases n with
  |zero=>exact hq.elim
  |
   succ n=>
   obtain ⟨rfl,hJ⟩:=hq
   obtain ⟨e₂,a₂,w₂,hq₂,harr₂⟩:=key n a₁ w₁ hJ
   exact ⟨e₂,a₂,w₂,hq₂,.of_steps (.head step_scope (harr _ hg)) harr₂⟩
 |ret=>exact ⟨_,a₁,w₁,Qd5 (by simp) hq,.of_steps (.one step_scope) harr⟩
 |panic ch=>exact ⟨_,a₁,w₁,Qd5 (by simp) hq,.of_steps (.one step_scope) harr⟩
 |outgrown=>exact ⟨_,a₁,w₁,Qd5 (by simp) hq,.of_steps (.one step_scope) harr⟩
theorem Qtn (hI:InlOK P C I) {c rest:Code} (hr:Yw P C I M0 fid base rest) (hf:findLabel c 0=some rest):∀(n:Nat) (d:Code),Yw P C I M0 fid base d->∀(env:Env) (S:Store) (a:Act) (M:Mem) (Q:Exit->Act->World->Prop) (e:X) (env':Env) (S':Store),Step M0 M->Now M S->Qy M a.tmps env->base<=S.length ->
  C.evK (I Out) fid base d env S (C.gotoK (I Out) fid base c KK n)=some (e,env',S')->J4 M0 base a e env' S' Q->d.wp P (Qbq P rest Q n) a M.w:=by
 intro n
 induction n with
 |
  zero=>
  intro d hd env S a M Q e env' S' hst hN he hbl h hQ
  rw [Qw hI] at h
  simp only [Bk,Z5] at h
  obtain ⟨⟨x,env1,S1⟩,h1,h2⟩:=h
  refine hd env S a M _ x env1 S1 hst hN he hbl h1 λa' M' h3 h4 h5 h6 h7=>?_
  cases x<;>simp only [Ctx.gotoK,KK,Zs,Z2] at h2<;>try (simp at h2;done)
  all_goals
   obtain ⟨rfl,rfl,rfl⟩:=h2
   exact Qrw (by simp [Qej]) (hQ a' M' h3 h4 h5 h6 h7)
 |
  succ n ih=>
  intro d hd env S a M Q e env' S' hst hN he hbl h hQ
  rw [Qw hI] at h
  simp only [Bk,Z5] at h
  obtain ⟨⟨x,env1,S1⟩,h1,h2⟩:=h
  refine hd env S a M _ x env1 S1 hst hN he hbl h1 λa' M' h3 h4 h5 h6 h7=>?_
  cases x with
  |
   goto l=>
   simp only [Ctx.gotoK,hf] at h2
   split at h2
   case isFalse=>simp at h2
   rename_i hl
   exact ⟨hl,ih rest hr env1 S1 a' M' Q e env' S' h3 h4 h5 h7 h2 λa2 M2 g1 g2 g3 g4 g5=>hQ a2 M2 g1 g2 g3 (by rw [g4,h6]) g5⟩
  |
   normal=>
   simp only [Ctx.gotoK,KK,Zs,Z2] at h2
   obtain ⟨rfl,rfl,rfl⟩:=h2
   exact hQ a' M' h3 h4 h5 h6 h7
  |
   exit i=>
   simp only [Ctx.gotoK,KK,Zs,Z2] at h2
   obtain ⟨rfl,rfl,rfl⟩:=h2
   exact hQ a' M' h3 h4 h5 h6 h7
  |
   ret=>
   simp only [Ctx.gotoK,KK,Zs,Z2] at h2
   obtain ⟨rfl,rfl,rfl⟩:=h2
   exact hQ a' M' h3 h4 h5 h6 h7
theorem Qiw:∀(c:Code) {l:Nat} {rest:Code},findLabel c l=some rest->∀p∈loopList rest,p∈loopList c
 |
  .seq x y,l,rest,h,p,hp=>by
  unfold findLabel at h
  split at h
  ·rename_i r hr
   simp only [Zs] at h;subst h
   simp only [loopList,Z50] at hp ⊢
   exact hp.imp (Qiw x hr p) _root_.id
  ·simp only [loopList,Z50];exact .inr (Qiw y h p hp)
 |
  .label l',l,rest,h,p,hp=>by
  unfold findLabel at h
  split at h
  ·simp only [Zs] at h;subst h;simp [loopList] at hp
  ·simp at h
 |.skip,_,_,h,_,_=>by simp [findLabel] at h
 |.region ..,_,_,h,_,_=>by simp [findLabel] at h
 |.cond ..,_,_,h,_,_=>by simp [findLabel] at h
 |.block ..,_,_,h,_,_=>by simp [findLabel] at h
 |.loop ..,_,_,h,_,_=>by simp [findLabel] at h
 |.rangeFunc ..,_,_,h,_,_=>by simp [findLabel] at h
 |.scope ..,_,_,h,_,_=>by simp [findLabel] at h
 |.goto ..,_,_,h,_,_=>by simp [findLabel] at h
 |.exit ..,_,_,h,_,_=>by simp [findLabel] at h
 |.ret,_,_,h,_,_=>by simp [findLabel] at h
 |.refuse ..,_,_,h,_,_=>by simp [findLabel] at h
theorem Qlm (hC:Wc P C) (hI:InlOK P C I) {body:Code} (hL:LoopsOK C I fid base body) (hM0:∀id,(M0.μ id).isSome=true->id<base) {c:Code} (hsub:∀p∈loopList c,p∈loopList body) (env:Env) (S:Store) (a:Act) (M:Mem) (Q:Exit->Act->World->Prop) (e:X) (env':Env) (S':Store) (hst:Step M0 M) (hN:Now M S) (he:Qy M a.tmps env) (hbl:base<=S.length)
  (h:C.evS (I Out) fid base c env S KK=some (e,env',S')) (hQ:J4 M0 base a e env' S' Q):(Code.scope c).wp P Q a M.w:=by
 unfold Ctx.evS at h
 have hc:Yw P C I M0 fid base c:=Wi hC hI hL hM0 c hsub
 cases hf:findLabel c 0 with
 |
  some rest=>
  have hr:Yw P C I M0 fid base rest:=Wi hC hI hL hM0 rest (λp hp=>hsub p (Qiw c hf p hp))
  exact Qts hf (Qtn hI hr hf _ c hc env S a M Q e env' S' hst hN he hbl h hQ)
 |
  none=>
  refine wp_scope_straight ?_
  rw [Qw hI] at h
  simp only [Bk,Z5] at h
  obtain ⟨⟨x,env1,S1⟩,h1,h2⟩:=h
  refine hc env S a M _ x env1 S1 hst hN he hbl h1 λa' M' h3 h4 h5 h6 h7=>?_
  generalize C.unroll fid 1000000=n at h2
  cases x with
  |goto l=>cases n<;>simp [Ctx.gotoK,hf] at h2
  |
   normal=>
   cases n<;>(simp only [Ctx.gotoK,KK,Zs,Z2] at h2;obtain ⟨rfl,rfl,rfl⟩:=h2;exact hQ a' M' h3 h4 h5 h6 h7)
  |
   exit i=>
   cases n<;>(simp only [Ctx.gotoK,KK,Zs,Z2] at h2;obtain ⟨rfl,rfl,rfl⟩:=h2;exact hQ a' M' h3 h4 h5 h6 h7)
  |
   ret=>
   cases n<;>(simp only [Ctx.gotoK,KK,Zs,Z2] at h2;obtain ⟨rfl,rfl,rfl⟩:=h2;exact hQ a' M' h3 h4 h5 h6 h7)
theorem Qrp (hC:Wc P C) (hI:InlOK P C I) {body:Code} (hL:LoopsOK C I fid base body) (hM0:∀id,(M0.μ id).isSome=true->id<base) (env:Env) (S:Store) (a:Act) (M:Mem) (Q:Exit->Act->World->Prop) (e:X) (env':Env) (S':Store) (hst:Step M0 M) (hN:Now M S) (he:Qy M a.tmps env) (hbl:base<=S.length)
  (h:C.evB (I Out) fid base body env S KK=some (e,env',S')) (hQ:J4 M0 base a e env' S' Q):body.wp P Q a M.w:=by
 unfold Ctx.evB at h
 split at h
 ·exact Qlm hC hI hL hM0 (λp hp=>by simpa [loopList] using hp) env S a M Q e env' S' hst hN he hbl h hQ
 ·rename_i x c
  rw [Qw hI] at h
  simp only [Bk,Z5] at h
  obtain ⟨⟨e1,env1,S1⟩,h1,h2⟩:=h
  refine wp_seq (Wi hC hI hL hM0 x (λp hp=>by simp [loopList,hp]) env S a M _ e1 env1 S1 hst hN he hbl h1 λa' M' h3 h4 h5 h6 h7=>?_)
  cases e1 with
  |normal=>exact Qlm hC hI hL hM0 (λp hp=>by simp [loopList,hp]) env1 S1 a' M' Q e env' S' h3 h4 h5 h7 h2 λa2 M2 g1 g2 g3 g4 g5=>hQ a2 M2 g1 g2 g3 (by rw [g4,h6]) g5
  |
   exit i=>
   simp only [Kont.seq,KK,Zs,Z2] at h2
   obtain ⟨rfl,rfl,rfl⟩:=h2
   exact hQ a' M' h3 h4 h5 h6 h7
  |
   ret=>
   simp only [Kont.seq,KK,Zs,Z2] at h2
   obtain ⟨rfl,rfl,rfl⟩:=h2
   exact hQ a' M' h3 h4 h5 h6 h7
  |
   goto l=>
   simp only [Kont.seq,KK,Zs,Z2] at h2
   obtain ⟨rfl,rfl,rfl⟩:=h2
   exact hQ a' M' h3 h4 h5 h6 h7
 ·exact Wi hC hI hL hM0 _ (λp hp=>hp) env S a M Q e env' S' hst hN he hbl h hQ
end
theorem Qw4 {α:Type}:∀(x:Sem α),Sem.bind x Sem.pure=x:=by
 intro x
 induction x with
 |pure a=>rfl
 |halt h=>rfl
 |_=>simp only [Sem.bind];first|(congr 1;funext v;rename_i ih;exact ih v)|(congr 1)
theorem Qxu {α β γ:Type} (f:α->Sem β) (g:β->Sem γ):∀(x:Sem α),Sem.bind (Sem.bind x f) g=Sem.bind x λa=>Sem.bind (f a) g:=by
 intro x
 induction x with
 |pure a=>rfl
 |halt h=>rfl
 |_=>simp only [Sem.bind];first|(congr 1;funext v;rename_i ih;exact ih v)|(congr 1)
theorem Qpq:LawfulMonad Sem:=LawfulMonad.mk' Sem (λx=>Qw4 x) (λ_ _=>rfl) (λx f g=>Qxu f g x)
theorem Qze {α:Type} {P:Program} {w:World} {f:α->Sem Value}:∀{xs:List α} {vs:List Value},vs.length=xs.length->(∀i (hi:i<xs.length) (hi':i<vs.length),(f xs[i]).run P w=.ok vs[i] w)->(xs.mapM f).run P w=.ok vs w:=by
 have:=Qpq
 intro xs
 induction xs with
 |nil=>
      intro vs hs h;have:vs=[]:=Z6 hs
      subst this;rfl
 |
  cons x xs ih=>
  intro vs hs h
  match vs,hs,h with
  |
   v::vs,hs,h=>
   have h0:=h 0 (by simp) (by simp)
   have h1:=ih (vs:=vs) (by simpa using hs) λi hi hi'=>h (i+1) (by simpa using hi) (by simpa using hi')
   simp only [Z41] at h0
   rw [List.mapM_cons]
   simp only [Sem.run_bind,h0,Result.andThen_ok,h1,Sem.run_pure]
theorem Qtj {α:Type} {P:Program} {w:World} {f:α->Sem Value} {xs:Array α} {vs:List Value} (hs:vs.length=xs.size) (h:∀i (hi:i<xs.toList.length) (hi':i<vs.length),(f xs.toList[i]).run P w=.ok vs[i] w):(xs.mapM f).run P w=.ok vs.toArray w:=by
 have:=Qpq
 have e:xs.mapM f=List.toArray <$> xs.toList.mapM f:=by
  conv=>lhs;rw [<-Array.toArray_toList (xs:=xs)]
  exact List.mapM_toArray
 rw [e,<-bind_pure_comp,Sem.run_bind,Qze (by simpa using hs) h,Result.andThen_ok]
 rfl
section
variable {P:Program} {C:Ctx} {M:Mem} {S:Store} {a:Act} {env:Env}
def resF (tmps:Array Value):ResultVar->Sem Value
 |.tmp t=>pure (tmps.getD t Go.undef)
 |.cell b t=>do loadVar t (<-asAddr (tmps.getD b Go.undef))
theorem Qur (hT:C.T.check P=true) (hN:Now M S) {t:Nat} {cx:Value} {x v:V} (hx:Rep M cx x) (h:C.loadV t S x some=some v):∃cv,(do loadVar t (<-asAddr cx):Sem Value).run P M.w=.ok cv M.w/\Rep M cv v:=by
 obtain ⟨cv,v',hrun,hK,hr⟩:=Qoz hT hN.ok (λid _=>hN.is id) h hx
 simp only [Zs] at hK
 subst hK
 refine ⟨cv,?_,hr⟩
 cases cx with
 |
  pointer ad=>
  cases ad with
  |none=>simp [Instr.loadAt,Instr.sureAddr,stuck] at hrun
  |some ad=>simpa [Instr.loadAt,Instr.sureAddr,asAddr] using hrun
 |_=>simp [Instr.loadAt,Instr.sureAddr,stuck] at hrun
theorem Qgj (hT:C.T.check P=true) (hN:Now M S) (he:Qy M a.tmps env):∀(rs:List ResultVar) (vs:List V),C.resK env S rs some=some vs->vs.length=rs.length /\
  ∃cvs:List Value,cvs.length=rs.length/\(∀i (h:i<rs.length) (h':i<cvs.length),(resF a.tmps rs[i]).run P M.w=.ok cvs[i] M.w)/\∀i (h:i<vs.length) (h':i<cvs.length),Rep M cvs[i] vs[i]
 |
  [],vs,h=>by
  simp only [Ctx.resK,Zs] at h
  subst h
  exact ⟨rfl,[],rfl,λi h=>by simp at h,λi h=>by simp at h⟩
 |
  .tmp t::rs,vs,h=>by
  simp only [Ctx.resK] at h
  rw [Y9] at h
  simp only [Z5,Zs] at h
  obtain ⟨us,h1,rfl⟩:=h
  obtain ⟨h2,cvs,h3,h4,h5⟩:=Qgj hT hN he rs us h1
  refine ⟨by simp [h2],a.tmps.getD t Go.undef::cvs,by simp [h3],λi hi hi'=>?_,λi hi hi'=>?_⟩
  ·cases i with
   |zero=>simp [resF]
   |succ i=>simpa using h4 i (by simpa using hi) (by simpa using hi')
  ·cases i with
   |zero=>exact he.get t
   |succ i=>simpa using h5 i (by simpa using hi) (by simpa using hi')
 |
  .cell b t::rs,vs,h=>by
  simp only [Ctx.resK] at h
  rw [Qb1] at h
  simp only [Z5] at h
  obtain ⟨v,hv,h⟩:=h
  rw [Y9] at h
  simp only [Z5,Zs] at h
  obtain ⟨us,h1,rfl⟩:=h
  obtain ⟨h2,cvs,h3,h4,h5⟩:=Qgj hT hN he rs us h1
  obtain ⟨cv,hrun,hr⟩:=Qur hT hN (he.get b) hv
  refine ⟨by simp [h2],cv::cvs,by simp [h3],λi hi hi'=>?_,λi hi hi'=>?_⟩
  ·cases i with
   |zero=>simpa [resF] using hrun
   |succ i=>simpa using h4 i (by simpa using hi) (by simpa using hi')
  ·cases i with
   |zero=>exact hr
   |succ i=>simpa using h5 i (by simpa using hi) (by simpa using hi')
theorem Qzz (hT:C.T.check P=true) (hN:Now M S) (he:Qy M a.tmps env) {fn:Func} {vs:List V} (h:C.resK env S fn.results.toList some=some vs):∃cv,(results fn a.tmps).run P M.w=.ok cv M.w/\Rep M cv (one vs):=by
 obtain ⟨h2,cvs,h3,h4,h5⟩:=Qgj hT hN he _ _ h
 have hsz:fn.results.size=cvs.length:=by simp [h3]
 have hrun:=Qtj (P:=P) (w:=M.w) (xs:=fn.results) (vs:=cvs) (f:=resF a.tmps) hsz.symm h4
 rw [show results fn a.tmps=(fn.results.mapM (resF a.tmps) >>= λvs=>pure (if h:vs.size=1 then vs[0] else .tuple vs)) from rfl,Sem.run_bind,hrun,Result.andThen_ok,Sem.run_pure]
 by_cases h1:cvs.length=1
 ·obtain ⟨c,rfl⟩:=List.length_eq_one_iff.1 h1
  obtain ⟨v,rfl⟩:=List.length_eq_one_iff.1 (h2.trans (by rw [<-h3];exact h1))
  exact ⟨c,by simp,h5 0 (by simp) (by simp)⟩
 ·refine ⟨.tuple cvs.toArray,by simp [h1],?_⟩
  have:one vs=.tup vs:=by
   match vs,h2 with
   |[],_=>rfl
   |[v],h2=>simp at h2;omega
   |v::u::r,_=>rfl
  rw [this]
  have hlen:vs.length=cvs.length:=by rw [h2,h3]
  exact .tup _ _ (by simp [hlen]) λj hj=>by
   have:=h5 j hj (by omega)
   rw [show cvs.toArray.getD j Go.undef=cvs[j]'(by omega) by simp [show j<cvs.length by omega]]
   exact this
end
structure FunOK (P:Program) (g:Nat) (f:Func) (c:Code):Prop where
 get:P.funcs[g]? = some f
 body:f.body=some c
 name:(f.name == "runtime.NumGoroutine")=false
theorem FunOK.enters {P:Program} {g:Nat} {f:Func} {c:Code} (h:FunOK P g f c) (args:Array Value) (w:World):(callFunc g args).run P w=.ok (.enter g args) w:=by
 have h1:f.name≠"runtime.NumGoroutine":=by simpa using h.name
 simp [callFunc,go_sem,h.get,h.body,h1]
theorem Qfp {P:Program} {g:Nat} {f:Func} {c:Code} (h:FunOK P g f c):(ifun f).body=c:=by simp [ifun,h.body]
section
variable {P:Program} {C:Ctx} {I:InlP}
theorem Qfq (hC:Wc P C) (hI:InlOK P C I) {g:Nat} {f:Func} {c:Code} (hf:FunOK P g f c) {M:Mem} {S:Store} (hL:LoopsOK C I g S.length c) (hN:Now M S) {args:List V} {cargs:Array Value} (hsz:cargs.size=args.length)
  (hr:∀j (h:j<args.length),Rep M (cargs.getD j Go.undef) args[j]) {e:X} {env':Env} {S':Store} (h:C.evB (I Out) g S.length c (args++List.replicate (f.ntmps-args.length) .undef) S KK=some (e,env',S')) (he:(∀i,e≠.exit i)/\∀l,e≠.goto l)
  {vs:List V} (hv:C.resK env' S' f.results.toList some=some vs):Calls P g cargs M.w λe w'=>∃cv M',e=.returned cv/\M'.w=w'/\Step M M'/\Now M' S'/\Rep M' cv (one vs)/\S.length<=S'.length:=by
 have hM0:∀id,(M.μ id).isSome=true->id<S.length:=λid h=>by
  rcases Z39 id S.length with h1|h1
  ·exact h1
  ·rw [hN.fresh id h1] at h;simp at h
 refine calls_of_wp hf.get hf.body (Qrp hC hI hL hM0 _ S ⟨cargs++Array.replicate (f.ntmps-cargs.size) Go.undef,[]⟩ M _ e env' S' (.refl M) hN ⟨by simp [hsz],λt ht=>?_⟩ (Z4 _) h λa' M' h1 h2 h3 h4 h5=>?_)
 ·by_cases hlt:t<args.length
  ·rw [Z27 hlt]
   have:=hr t hlt
   simpa [Z0,Z51 (show t<cargs.size by omega)] using this
  ·rw [Z37 (by omega),List.getElem_replicate]
   exact .imm (.undef _)
 ·obtain ⟨cv,hrun,hrep⟩:=Qzz hC.tab h2 h3 hv
  cases e with
  |normal=>exact ⟨h4,cv,hrun,cv,M',rfl,rfl,h1,h2,hrep,h5⟩
  |exit i=>exact (he.1 i rfl).elim
  |goto l=>exact (he.2 l rfl).elim
  |ret=>exact ⟨h4,cv,hrun,cv,M',rfl,rfl,h1,h2,hrep,h5⟩
abbrev Qd6:=∀R:Type,List V->Store->(V->Store->Option R)->Option R
structure SoundP (P:Program) (g:Nat) (h:Qd6):Prop where
 nat:∀(R:Type) (args:List V) (S:Store) (K:V->Store->Option R),h R args S K=Bd (h (V×Store) args S K0) K
 sound:∀(args:List V) (S:Store) (v:V) (S':Store) (M:Mem) (cargs:Array Value),h (V×Store) args S K0=some (v,S')->Now M S->cargs.size=args.length ->
  (∀j (h:j<args.length),Rep M (cargs.getD j Go.undef) args[j])->CallR P g cargs M.w λcv w'=>∃M':Mem,M'.w=w'/\Step M M'/\Now M' S'/\Rep M' cv v/\S.length<=S'.length
structure InlF (P:Program) (C:Ctx):Prop where
 prim:∀g h,C.prim g=some h->SoundP P g h
 fn:∀g fn,C.inl g=some fn->∃f c,FunOK P g f c/\fn=ifun f
 loops:∀g fn,C.inl g=some fn->(InlOK P C λR=>C.inlK (C.rank g))->∀base,LoopsOK C (λR=>C.inlK (C.rank g)) g base fn.body
theorem Qv1 {R:Type} (rs:List ResultVar) (k:List V->Store->Option R) (e:X) (env:Env) (S:Store):C.outK rs k e env S=(C.outK rs (λvs S=>some (vs,S)) e env S).bind λp=>k p.1 p.2:=by
 cases e<;>simp only [Ctx.outK]
 ·rw [Y9,Y9 C env S rs λvs=>some (vs,S)];cases C.resK env S rs some<;>rfl
 ·rfl
 ·rw [Y9,Y9 C env S rs λvs=>some (vs,S)];cases C.resK env S rs some<;>rfl
 ·rfl
theorem Qew {rs:List ResultVar} {e:X} {env:Env} {S:Store} {vs:List V} {S':Store} (h:C.outK rs (λvs S=>some (vs,S)) e env S=some (vs,S')):((∀i,e≠.exit i)/\∀l,e≠.goto l)/\C.resK env S rs some=some vs/\S'=S:=by
 have key:(C.resK env S rs λvs=>some (vs,S))=some (vs,S')->C.resK env S rs some=some vs/\S'=S:=λh=>by
  rw [Y9] at h
  simp only [Z5,Zs,Z2] at h
  obtain ⟨us,h1,rfl,rfl⟩:=h
  exact ⟨h1,rfl⟩
 cases e<;>simp only [Ctx.outK] at h
 ·exact ⟨⟨λi hi=>by simp at hi,λi hi=>by simp at hi⟩,key h⟩
 ·simp at h
 ·exact ⟨⟨λi hi=>by simp at hi,λi hi=>by simp at hi⟩,key h⟩
 ·simp at h
theorem Qbo {I:InlP} (hI:InlOK P C I) {R:Type} (fid base:Nat) (c:Code) (env:Env) (S:Store) (rs:List ResultVar) (k:List V->Store->Option R) :
  C.evB (I R) fid base c env S (C.outK rs k)=((C.evB (I Out) fid base c env S KK).bind λp=>C.outK rs (λvs S=>some (vs,S)) p.1 p.2.1 p.2.2).bind λp=>k p.1 p.2:=by
 rw [Qym hI]
 cases C.evB (I Out) fid base c env S KK with
 |none=>rfl
 |some p=>exact Qv1 rs k p.1 p.2.1 p.2.2
theorem Qa7 (hC:Wc P C) (hF:InlF P C):∀d,InlOK P C λR=>C.inlK d
 |0=>⟨λR f args S K=>rfl,λf args S v S' M cargs h=>by simp [Ctx.inlK] at h⟩
 |
  d+1=>by
  have ih:=Qa7 hC hF d
  refine ⟨λR f args S K=>?_,λf args S v S' M cargs h hN hsz hr=>?_⟩
  ·simp only [Ctx.inlK]
   cases hp:C.prim f with
   |some h=>exact (hF.prim f h hp).nat R args S K
   |none=>
   cases hrk:Nat.beq (C.rank f) d with
   |false=>simp only [Zc];exact ih.nat R f args S K
   |true=>
   simp only [Zd]
   cases C.inl f with
   |none=>rfl
   |
    some fn=>
    simp only
    rw [Qbo ih,Qbo (R:=V×Store) ih]
    generalize (C.evB (C.inlK d) f S.length fn.body (args++List.replicate (fn.ntmps-args.length) .undef) S KK).bind _=q
    cases q<;>rfl
  ·simp only [Ctx.inlK] at h
   cases hp:C.prim f with
   |
    some pr=>
    rw [hp] at h
    exact (hF.prim f pr hp).sound args S _ _ M cargs h hN hsz hr
   |none=>
   rw [hp] at h
   simp only at h
   cases hrk:Nat.beq (C.rank f) d with
   |
    false=>
    rw [hrk] at h
    exact ih.sound f args S v S' M cargs h hN hsz hr
   |true=>
   rw [hrk] at h
   simp only [Zd] at h
   have hrank:C.rank f=d:=Z61 hrk
   cases hg:C.inl f with
   |none=>rw [hg] at h;simp at h
   |
    some fn=>
    rw [hg] at h
    simp only at h
    rw [Qbo ih] at h
    simp only [Z5] at h
    obtain ⟨⟨vs,S2⟩,⟨⟨e,env',S1⟩,h1,h2⟩,h3⟩:=h
    simp only [K0,Zs,Z2] at h3
    obtain ⟨rfl,rfl⟩:=h3
    obtain ⟨hne,hv,rfl⟩:=Qew h2
    obtain ⟨fu,c,hfu,rfl⟩:=hF.fn f _ hg
    have hbody:=Qfp hfu
    have hloops:=hF.loops f _ hg (by rw [hrank];exact ih) S.length
    rw [hbody] at hloops h1
    rw [hrank] at hloops
    have hcalls:=Qfq hC ih hfu hloops hN hsz hr h1 hne hv
    unfold CallR
    rw [hfu.enters]
    exact hcalls.mono λe w' ⟨cv,M',he,hw,h5,h6,h7,h8⟩=>by
     subst he;exact ⟨M',hw,h5,h6,h7,h8⟩
def Wt:V->V
 |.agg cs=>.agg (cs.map unexact)
 |v=>unexact v
def Qdn:V->V
 |.tup vs=>.tup (vs.map Wt)
 |v=>Wt v
def imm3:V->Bool
 |.tup vs=>vs.all immV
 |v=>immV v
theorem Qea {M:Mem} {cv:Value} {v:V} (h:Rep M cv v):Rep M cv (unexact v):=by
 cases v<;>simp only [unexact]<;>try exact h
 all_goals
  cases h with
  |imm h=>exact .imm (Qfr h rfl)
  |ref h=>exact h.2.elim
theorem Qd3 {M:Mem} {cv:Value} {v:V} (h:Rep M cv v):Rep M cv (Wt v):=by
 cases v with
 |
  agg cs=>
  obtain ⟨cvs,rfl,hl,ho,hr⟩:=Wp h
  exact .agg cvs _ (by simpa using hl) (λj hj=>ho j (by simpa using hj)) λj hj=>by
   rw [Z20];exact Qea (hr j (by simpa using hj))
 |_=>exact Qea h
theorem Qns {M:Mem} {cv:Value} {v:V} (h:Rep M cv v):Rep M cv (Qdn v):=by
 cases v with
 |
  tup cs=>
  obtain ⟨cvs,rfl,hl,hr⟩:=Qag h
  exact .tup cvs _ (by simpa using hl) λj hj=>by
   rw [Z20];exact Qd3 (hr j (by simpa using hj))
 |_=>exact Qd3 h
theorem Qpn {M:Mem} {cv:Value} {v:V} (h:Rep M cv v) (hi:imm3 v=true):Rep0 M.O M.w cv v:=by
 cases v with
 |
  tup cs=>
  obtain ⟨cvs,rfl,hl,hr⟩:=Qag h
  exact .tup cvs cs hl λj hj=>Qah (hr j hj) (Z23.1 hi _ (Z15 hj))
 |_=>exact Qah h hi
def mem0 (O:Nat->Prop) (w:World):Mem:=⟨w,O,λ_=>none,λ_=>.dead⟩
theorem Qor {O:Nat->Prop} {w:World} (h:∀b,O b->b<w.heap.size):Now (mem0 O w) []:=
 ⟨⟨λid loc h=>by simp [mem0] at h,λid id' b o o' cap cap' h1=>by simp [mem0,Blk.own] at h1,h⟩,λid=>by simp [mem0],λid _=>rfl⟩
theorem Qio (hC:Wc P C) (hF:InlF P C) {g:Nat} {f:Func} {c:Code} (hf:FunOK P g f c) (hL:LoopsOK C (λR=>C.inlK 6) g 0 c) {vs vs0:List V} {p:Pack} {dec:V->Option p.ρ}
  (hvs:vs.map Wt=vs0) (link:C.evTop g (ifun f) vs0 dec=p.m) (hdec:∀v r,dec v=some r->Qdn v=p.enc r/\imm3 (p.enc r)=true):SoundC P g vs p:=by
 intro O w args r hm hsz hrep hO
 have ih:=Qa7 hC hF 6
 have hN:=Qor hO
 rw [hm] at link
 have hsz0:args.size=vs0.length:=by rw [<-hvs];simpa using hsz
 have hrep0:∀j (h:j<vs0.length),Rep (mem0 O w) (args.getD j Go.undef) vs0[j]:=λj hj=>by
  subst hvs
  rw [Z20]
  exact Qd3 (.imm (hrep j (by simpa using hj)))
 unfold Ctx.evTop at link
 rw [Qbo ih] at link
 simp only [Z5] at link
 obtain ⟨⟨us,S'⟩,⟨⟨e,env',S1⟩,h1,h2⟩,h3⟩:=link
 obtain ⟨hne,h2',rfl⟩:=Qew h2
 rw [Qfp hf] at h1
 have hcalls:=Qfq (S:=[]) hC ih hf hL hN hsz0 hrep0 h1 hne h2'
 unfold CallR
 rw [hf.enters]
 refine hcalls.mono λe w' ⟨cv,M',he,hw,h5,h6,h7,_⟩=>?_
 subst he
 subst hw
 obtain ⟨M2,hfz⟩:=Qcb us h6.ok h6.is
 have hN2:=hfz.now h6
 have hst:=h5.trans hfz.step
 refine ⟨⟨h5.os,h5.tape,h5.output,h5.size,λk hk _=>(h5.keep k hk λ⟨id,o,cap,h,_⟩=>by simp [mem0,Blk.own] at h).1⟩,?_⟩
 have himm:∀v∈us,∀{cv},Rep M' cv v->Rep M2 cv (immDeep S' v):=λv hv cv h=>by
  have h8:=Qem hN2.ok hN2.is (hfz.step.rep h6.ok h) λu hu=>Qcd us (.inr ⟨v,hv,hu⟩)
  have h9:immDeep (Wa S' us) v=immDeep S' v:=by
   have hh:=Qdk hfz.content
   unfold immDeep
   split
   ·congr 1;exact Z108 λu _=>hh u
   ·exact hh _
  rwa [h9] at h8
 have h8:Rep M2 cv (one (us.map (immDeep S'))):=by
  match us,h7,himm with
  |
   [],h7,_=>
   obtain ⟨cvs,rfl,hl,hr⟩:=Qag h7
   exact .tup cvs [] hl λj hj=>by simp at hj
  |[v],h7,himm=>exact himm v (by simp) h7
  |
   v::u::rest,h7,himm=>
   obtain ⟨cvs,rfl,hl,hr⟩:=Qag h7
   refine .tup cvs ((v::u::rest).map (immDeep S')) (by simpa using hl) λj hj=>?_
   have hj':j<(v::u::rest).length:=by simpa using hj
   have e1:((v::u::rest).map (immDeep S'))[j]=immDeep S' (v::u::rest)[j]:=Z20 ..
   rw [e1];exact himm _ (Z15 _) (hr j hj')
 obtain ⟨h9,h10⟩:=hdec _ _ h3
 have h11:=Qns h8
 rw [h9] at h11
 have h12:=Qpn h11 h10
 have hw2:M2.w=M'.w:=hfz.w
 rw [hw2] at h12
 refine h12.mono (λa v _ h=>h) λa v hno hcell hOa=>hno ?_
 have hlt:=hO _ hOa
 have:=(hst.keep a.block hlt λ⟨id,o,cap,h,_⟩=>by simp [mem0,Blk.own] at h).2
 exact this.2 hOa
theorem Qsr {σ R:Type} {F:(σ->Option R)->σ->Option R} {x:σ} {o:R} (h:lfp F x=some o):∃N,We F N x=some o:=by
 unfold lfp at h
 split at h
 ·exact ⟨_,h⟩
 ·simp at h
theorem Qzy (hI:InlOK P C I) {R:Type} (fid id base:Nat) (b:Code) (n:Nat) (k:Env×Store->Option R) (d:Out->Option R) (st:Env×Store) {R':Type} (g:R->R') :
  C.loopPI (I R') fid id base b n (λst=>(k st).map g) (λp=>(d p).map g) st=(C.loopPI (I R) fid id base b n k d st).map g:=by
 unfold Ctx.loopPI
 rw [Qw hI,Qw (R:=R) hI]
 cases C.evK (I Out) fid base b st.1 st.2 KK with
 |none=>rfl
 |
  some p=>
  obtain ⟨e,env,S⟩:=p
  cases e<;>rfl
theorem Qoh (hI:InlOK P C I) {σ τ:Type} {F:∀R:Type,(σ->Option R)->(τ->Option R)->σ->Option R} {fid id base n:Nat} {b:Code} {enc:σ->Env×Store} {dec:Env×Store->Option σ} {out:τ->Out} {decO:Out->Option τ}
  (hdec:∀x,dec (enc x)=some x) (hout:∀o,decO (out o)=some o)
  (link:∀(R:Type) (k:Env×Store->Option R) (d:Out->Option R) (x:σ),C.loopPI (I R) fid id base b n k d (enc x)=F R (λx'=>k (enc x')) (λo=>d (out o)) x) {x:σ} {o:τ}
  (h:lfp (λrec x=>F τ rec some x) x=some o):∃N,We (C.loopG (I Out) fid id base b n) N (enc x)=some (out o):=by
 have hF:∀(R:Type) (rec:σ->Option R) (done:τ->Option R) (x:σ),F R rec done x=C.loopPI (I R) fid id base b n (λst=>(dec st).bind rec) (λp=>(decO p).bind done) (enc x):=λR rec done x=>by
  rw [link];simp only [hdec,hout,Zb]
 have nat:∀(R R':Type) (g:R->R') (rec:σ->Option R) (done:τ->Option R) (x:σ),F R' (λx=>(rec x).map g) (λo=>(done o).map g) x=(F R rec done x).map g:=λR R' g rec done x=>by
  rw [hF R,hF R',<-Qzy hI]
  congr 1
  ·funext st;cases dec st<;>rfl
  ·funext p;cases decO p<;>rfl
 have key:∀N x,We (C.loopG (I Out) fid id base b n) N (enc x)=(We (λrec x=>F τ rec some x) N x).map out:=by
  intro N
  induction N with
  |zero=>intro x;rfl
  |
   succ N ihN=>
   intro x
   show C.loopPI (I Out) fid id base b n (We (C.loopG (I Out) fid id base b n) N) some (enc x)=(F τ (We (λrec x=>F τ rec some x) N) some x).map out
   rw [link,<-nat]
   congr 1
   funext x';exact ihN x'
 obtain ⟨N,hN⟩:=Qsr h
 exact ⟨N,by rw [key,hN];rfl⟩
mutual
theorem Qhr:∀(f v:V) (ls rest:List Leaf),matchV f v=some ls->fillF f (ls++rest)=(v,rest)
 |.undef,v,ls,rest,h=>by cases v<;>simp [matchV] at h;subst h;simp [fillF]
 |.bool b,v,ls,rest,h=>by cases v<;>simp [matchV] at h;subst h;simp [fillF]
 |.int k n,v,ls,rest,h=>by cases v<;>simp [matchV] at h;obtain ⟨rfl,rfl⟩:=h;simp [fillF]
 |.flt n,v,ls,rest,h=>by cases v<;>simp [matchV] at h;subst h;simp [fillF]
 |.str s,v,ls,rest,h=>by cases v<;>simp [matchV] at h;subst h;simp [fillF]
 |.ints x k l,v,ls,rest,h=>by cases v<;>simp [matchV] at h;obtain ⟨⟨rfl,rfl⟩,rfl⟩:=h;simp [fillF]
 |.strs x l,v,ls,rest,h=>by cases v<;>simp [matchV] at h;obtain ⟨rfl,rfl⟩:=h;simp [fillF]
 |.recs x z l,v,ls,rest,h=>by cases v<;>simp [matchV] at h;obtain ⟨⟨rfl,rfl⟩,rfl⟩:=h;simp [fillF]
 |.nilp,v,ls,rest,h=>by cases v<;>simp [matchV] at h;subst h;simp [fillF]
 |.ptr id off,v,ls,rest,h=>by cases v<;>simp [matchV] at h;obtain ⟨⟨rfl,rfl⟩,rfl⟩:=h;simp [fillF]
 |.sref id off,v,ls,rest,h=>by cases v<;>simp [matchV] at h;obtain ⟨⟨rfl,rfl⟩,rfl⟩:=h;simp [fillF]
 |.sview id off lo n,v,ls,rest,h=>by cases v<;>simp [matchV] at h;obtain ⟨⟨rfl,rfl⟩,rfl⟩:=h;simp [fillF]
 |
  .agg cs,v,ls,rest,h=>by
  cases v<;>simp only [matchV] at h<;>try (simp at h;done)
  have:=Qci cs _ ls rest h
  simp only [fillF,this]
 |
  .cptr cs,v,ls,rest,h=>by
  cases v<;>simp only [matchV] at h<;>try (simp at h;done)
  have:=Qci cs _ ls rest h
  simp only [fillF,this]
 |
  .func f cs,v,ls,rest,h=>by
  cases v<;>simp only [matchV] at h<;>try (simp at h;done)
  split at h
  case isFalse=>simp at h
  rename_i e
  subst e
  have:=Qci cs _ ls rest h
  simp only [fillF,this]
 |.nilf,v,ls,rest,h=>by cases v<;>simp [matchV] at h;subst h;simp [fillF]
 |.nili,v,ls,rest,h=>by cases v<;>simp [matchV] at h;subst h;simp [fillF]
 |.nilm,v,ls,rest,h=>by cases v<;>simp [matchV] at h;subst h;simp [fillF]
 |.nilsl,v,ls,rest,h=>by cases v<;>simp [matchV] at h;subst h;simp [fillF]
 |.eptr ..,v,ls,rest,h=>by cases v<;>simp [matchV] at h
 |.tup _,v,ls,rest,h=>by cases v<;>simp [matchV] at h
 |.iface _ _,v,ls,rest,h=>by cases v<;>simp [matchV] at h
 |.mapr _,v,ls,rest,h=>by cases v<;>simp [matchV] at h
theorem Qci:∀(fs vs:List V) (ls rest:List Leaf),Y7 fs vs=some ls->fillFL fs (ls++rest)=(vs,rest)
 |[],[],ls,rest,h=>by simp [Y7] at h;subst h;simp [fillFL]
 |[],_::_,ls,rest,h=>by simp [Y7] at h
 |_::_,[],ls,rest,h=>by simp [Y7] at h
 |
  f::fs,v::vs,ls,rest,h=>by
  simp only [Y7] at h
  split at h
  case h_2=>simp at h
  rename_i a b h1 h2
  simp only [Zs] at h
  subst h
  have e1:=Qhr f v a (b++rest) h1
  have e2:=Qci fs vs b rest h2
  simp only [fillFL,Z82,e1,e2]
end
theorem Qr5 (f v:Blk) (ls rest:List Leaf) (h:matchB f v=some ls):fillB f (ls++rest)=(v,rest):=by
 cases f<;>cases v<;>simp only [matchB] at h<;>try (simp at h;done)
 ·split at h
  case isFalse=>simp at h
  rename_i e
  subst e
  simp only [fillB,Qci _ _ ls rest h]
 ·split at h
  case isFalse=>simp at h
  rename_i e
  obtain ⟨rfl,rfl,rfl⟩:=e
  simp only [fillB,Qhr _ _ ls rest h]
 ·split at h
  case isFalse=>simp at h
  rename_i e
  subst e
  simp only [fillB,Qhr _ _ ls rest h]
 ·simp only [Zs] at h;subst h;simp [fillB]
 ·simp only [Zs] at h;subst h;simp [fillB]
theorem Qkk:∀(fs vs:Store) (ls rest:List Leaf),Qbl fs vs=some ls->fillS fs (ls++rest)=(vs,rest)
 |[],[],ls,rest,h=>by simp [Qbl] at h;subst h;simp [fillS]
 |[],_::_,ls,rest,h=>by simp [Qbl] at h
 |_::_,[],ls,rest,h=>by simp [Qbl] at h
 |
  f::fs,v::vs,ls,rest,h=>by
  simp only [Qbl] at h
  split at h
  case h_2=>simp at h
  rename_i a b h1 h2
  simp only [Zs] at h
  subst h
  have e1:=Qr5 f v a (b++rest) h1
  have e2:=Qkk fs vs b rest h2
  simp only [fillS,Z82,e1,e2]
theorem Qvq {f st:Env×Store} {ls:List Leaf} (h:Qdu f st=some ls):Qf f ls=st:=by
 unfold Qdu at h
 split at h
 case h_2=>simp at h
 rename_i a b h1 h2
 simp only [Zs] at h
 subst h
 have e1:=Qci f.1 st.1 a b h1
 have e2:=Qkk f.2 st.2 b [] h2
 rw [Z45] at e2
 simp only [Qf,e1,e2]
theorem Qyk {c:Code} (h:Qq c=true) {id:Nat} {b:Code} (hm:(id,b)∈loopList c):b=Ql id c:=by
 unfold Qq at h
 unfold Ql
 generalize loopList c=l at h hm
 induction l with
 |nil=>simp at hm
 |
  cons p l ih=>
  simp only [Qq.go,Z7,Z75,List.any_eq_false] at h
  obtain ⟨h1,h2⟩:=h
  rcases Z103.1 hm with e|hm
  ·subst e;simp
  ·have hne:p.1≠id:=λe=>h1 _ hm (by simp [e])
   have:=ih h2 hm
   rw [List.lookup_cons]
   have hb:(id == p.1)=false:=by simp;exact λe=>hne e.symm
   rw [hb];exact this
end
end Go.Proofs.YtihfdjkjpncjfaaGreatDoor.A
end
section
namespace Go.Proofs.YtihfdjkjpncjfaaGreatDoor.A
open Go Go.RowKit
def un:Nat->List V->List V
 |0,l=>l
 |n+1,l=>.undef::un n l
class LD (σ:Type) where
 rd:List Leaf->Option (σ×List Leaf)
instance:LD Bool:=⟨fun | .b x::r=>some (x,r)|_=>none⟩
instance:LD Int:=⟨fun | .i x::r=>some (x,r)|_=>none⟩
instance:LD Nat:=⟨fun | .n x::r=>some (x,r)|_=>none⟩
instance:LD J1:=⟨fun | .s x::r=>some (x,r)|_=>none⟩
instance:LD J0:=⟨fun | .li x::r=>some (x,r)|_=>none⟩
instance:LD (List J1):=⟨fun | .ls x::r=>some (x,r)|_=>none⟩
instance:LD J2:=⟨fun | .lr x::r=>some (x,r)|_=>none⟩
instance:LD Unit:=⟨λl=>some ((),l)⟩
instance {α β:Type} [LD α] [LD β]:LD (α×β):=⟨λl=>match (LD.rd l:Option (α×List Leaf)) with
 |some (a,r)=>(match (LD.rd r:Option (β×List Leaf)) with|some (b,r)=>some ((a,b),r)|none=>none)
 |none=>none⟩
def pickL (ls:List Leaf):List Nat->List Leaf
 |[]=>[]
 |i::is=>match ls[i]? with|some x=>x::pickL ls is|none=>pickL ls is
def decS {σ:Type} [LD σ] (sh:Env×Store) (is:List Nat) (st:Env×Store):Option σ:=
 match Qdu sh st with
 |some ls=>(match (LD.rd (pickL ls is):Option (σ×List Leaf)) with|some (a,_)=>some a|none=>none)
 |none=>none
def X.same:X->X->Bool
 |.normal,.normal=>true
 |.ret,.ret=>true
 |.exit i,.exit j=>Nat.beq i j
 |_,_=>false
def decO2 {τ τ':Type} [LD τ] [LD τ'] (k:X) (so:Env×Store) (os:List Nat) (so':Env×Store) (os':List Nat) (p:X×Env×Store):Option (τ⊕τ'):=
 bif X.same p.1 k then (decS so os p.2:Option τ).map .inl else (decS so' os' p.2:Option τ').map .inr
section
variable {P:Program} {C:Ctx}
def Qm (C:Ctx) (d fid id base:Nat) (b:Code) (sh:Env×Store) (pk:List Leaf->Option LPack):Prop:=
 ∀st p,(Qdu sh st).bind pk=some p->p.sound (C.loopG (C.inlK d) fid id base b st.2.length) st
theorem Qn {d fid id base:Nat} {b:Code} {sh:Env×Store} {pk:List Leaf->Option LPack} (h:∀ls p,pk ls=some p->p.sound (C.loopG (C.inlK d) fid id base b (Qf sh ls).2.length) (Qf sh ls)):Qm C d fid id base b sh pk:=by
 intro st p hp
 obtain ⟨ls,h1,h2⟩:=Z5.1 hp
 rw [<-Qvq h1]
 exact h ls p h2
abbrev IK (P:Program) (C:Ctx) (d:Nat):Prop:=InlOK P C λR=>C.inlK d
def Qr (C:Ctx) (d fid id base n:Nat) (f:IFun) {σ τ:Type} (enc:σ->Env×Store) (F:∀{R:Type},(σ->Option R)->(τ->Option R)->σ->Option R) (out:τ->Out):Prop:=
 ∀(R:Type) (k:Env×Store->Option R) (d':Out->Option R) (x:σ),C.loopPI (C.inlK d) fid id base (Ql id f.body) n k d' (enc x)=F (λx'=>k (enc x')) (λo=>d' (out o)) x
def Yo (C:Ctx) (d fid id base n:Nat) (f:IFun) {σ τ τ':Type} (enc:σ->Env×Store) (F:∀{R:Type},(σ->Option R)->(τ⊕τ'->Option R)->σ->Option R) (out:τ->Out) (out':τ'->Out):Prop:=
 ∀(R:Type) (k:Env×Store->Option R) (d':Out->Option R) (x:σ),C.loopPI (C.inlK d) fid id base (Ql id f.body) n k d' (enc x)=F (λx'=>k (enc x')) (λo=>match o with | .inl o=>d' (out o) | .inr o=>d' (out' o)) x
theorem Qs {d:Nat} (hI:IK P C d) {σ τ:Type} [LD σ] [LD τ] {fid id base n:Nat} {f:IFun} {st:Env×Store} {F:∀{R:Type},(σ->Option R)->(τ->Option R)->σ->Option R} {enc:σ->Env×Store} {out:τ->Out} (sh so:Env×Store) (is os:List Nat) (x:σ)
  (link:Qr C d fid id base n f enc F out)
  (hx:st=enc x:=by kernel_rfl) (hn:(enc x).2.length=n:=by kernel_rfl) (hdec:∀x,decS sh is (enc x)=some x:=by intro x;kernel_rfl) (hout:∀o,decS so os (out o).2=some o:=by intro o;kernel_rfl) :
  (LPack.one τ (lfp (λrec x=>F rec some x) x) out).sound (C.loopG (C.inlK d) fid id base (Ql id f.body) st.2.length) st:=by
 rw [hx,hn]
 intro o ho
 exact Qoh (I:=λR=>C.inlK d) hI (dec:=decS sh is) (decO:=λp=>decS so os p.2) (F:=λR=>F) hdec hout link ho
theorem Yt {d:Nat} (hI:IK P C d) {σ τ τ':Type} [LD σ] [LD τ] [LD τ'] {fid id base n:Nat} {f:IFun} {st:Env×Store} {F:∀{R:Type},(σ->Option R)->(τ⊕τ'->Option R)->σ->Option R} {enc:σ->Env×Store} {out:τ->Out} {out':τ'->Out} (sh so so':Env×Store) (k:X) (is os os':List Nat) (x:σ)
  (link:Yo C d fid id base n f enc F out out')
  (hx:st=enc x:=by kernel_rfl) (hn:(enc x).2.length=n:=by kernel_rfl) (hdec:∀x,decS sh is (enc x)=some x:=by intro x;kernel_rfl) (hout:∀o,decO2 (τ:=τ) (τ':=τ') k so os so' os' (out o)=some (.inl o):=by intro o;kernel_rfl) (hout':∀o,decO2 (τ:=τ) (τ':=τ') k so os so' os' (out' o)=some (.inr o):=by intro o;kernel_rfl) :
  (LPack.two τ τ' (lfp (λrec x=>F rec some x) x) out out').sound (C.loopG (C.inlK d) fid id base (Ql id f.body) st.2.length) st:=by
 rw [hx,hn]
 intro o ho
 have key:=Qoh (I:=λR=>C.inlK d) hI (dec:=decS sh is) (decO:=decO2 (τ:=τ) (τ':=τ') k so os so' os') (F:=λR=>F) (out:=λo=>match o with | .inl o=>out o | .inr o=>out' o) hdec (λo=>match o with | .inl o=>hout o | .inr o=>hout' o)
  (λR k d' x=>(link R k d' x).trans (congrArg (λdn=>F (λx'=>k (enc x')) dn x) (funext λo=>by cases o<;>rfl))) ho
 obtain ⟨N,hN⟩:=key
 exact ⟨N,hN.trans (by cases o<;>rfl)⟩
structure LE where
 f:Nat
 i:Nat
 b:Nat
 sh:Env×Store
 pk:List Leaf->Option LPack
def Qv:List LE->Nat->Nat->Nat->Env×Store->Option LPack
 |[],_,_,_,_=>none
 |e::r,f,i,b,st=>bif Nat.beq e.f f&&(Nat.beq e.i i&&Nat.beq e.b b) then orP ((Qdu e.sh st).bind e.pk) (Qv r f i b st) else Qv r f i b st
def AllS (C:Ctx) (d g:Nat) (body:Code):List LE->Prop
 |[]=>True
 |e::r=>(Nat.beq e.f g=false\/Qm C d g e.i e.b (Ql e.i body) e.sh e.pk)/\AllS C d g body r
theorem lpE {d g:Nat} {body:Code}:AllS C d g body []:=trivial
theorem lpY {d g:Nat} {body:Code} {f i b:Nat} {sh:Env×Store} {pk:List Leaf->Option LPack} {r:List LE} (h:Qm C d g i b (Ql i body) sh pk) (hr:AllS C d g body r):AllS C d g body (⟨f,i,b,sh,pk⟩::r):=⟨.inr h,hr⟩
theorem lpN {d g:Nat} {body:Code} {e:LE} {r:List LE} (hr:AllS C d g body r) (h:Nat.beq e.f g=false:=by rfl):AllS C d g body (e::r):=⟨.inl h,hr⟩
theorem Qu {l:List LE} (hL:C.L=Qv l) {d g:Nat} {body:Code} (once:Qq body=true) (h:AllS C d g body l) (base:Nat):LoopsOK C (λR=>C.inlK d) g base body:=by
 intro id b hm st p hp
 obtain rfl:=Qyk once hm
 rw [hL] at hp
 clear hL hm
 induction l with
 |nil=>cases hp
 |
  cons e r ih=>
  unfold Qv at hp
  cases h1:Nat.beq e.f g with
  |false=>rw [h1,Z59,Zc] at hp;exact ih h.2 hp
  |
   true=>
   rw [h1,Z81] at hp
   cases h2:Nat.beq e.i id with
   |false=>rw [h2,Z59,Zc] at hp;exact ih h.2 hp
   |
    true=>
    rw [h2,Z81] at hp
    cases h3:Nat.beq e.b base with
    |false=>rw [h3,Zc] at hp;exact ih h.2 hp
    |
     true=>
     rw [h3,Zd] at hp
     rcases orP_some hp with hq|hq
     ·rcases h.1 with h0|h0
      ·rw [h0] at h1;cases h1
      ·obtain rfl:=Z61 h2
       obtain rfl:=Z61 h3
       exact h0 st p hq
     ·exact ih h.2 hq
theorem Qc0 {l:List LE} (hL:C.L=Qv l) {g:Nat} (h:l.all (λe=>!Nat.beq e.f g)=true) (I:InlP) (base:Nat) (c:Code):LoopsOK C I g base c:=by
 intro id b hm st p hp
 exfalso
 rw [hL] at hp
 clear hL hm
 induction l with
 |nil=>cases hp
 |
  cons e r ih=>
  rw [List.all_cons,Z7,Z75] at h
  unfold Qv at hp
  rw [h.1,Z59,Zc] at hp
  exact ih h.2 hp
abbrev Qbk:Type 1:=∀R:Type,List V->List Blk->(V->List Blk->Option R)->Option R
def inlL:List (Nat×Func)->Nat->Option IFun
 |[],_=>none
 |(f,fn)::r,g=>if g=f then some (ifun fn) else inlL r g
def W9:List (Nat×Qbk)->Nat->Option Qbk
 |[],_=>none
 |(f,h)::r,g=>if g=f then some h else W9 r g
def InlQ (P:Program) (C:Ctx) (g:Nat) (fn:IFun):Prop:=
 (∃f c,FunOK P g f c/\fn=ifun f)/\(IK P C (C.rank g)->∀base,LoopsOK C (λR=>C.inlK (C.rank g)) g base fn.body)
theorem inlN:∀g fn,(none:Option IFun)=some fn->InlQ P C g fn:=λ_ _ h=>by cases h
theorem inlE:∀g fn,inlL [] g=some fn->InlQ P C g fn:=λ_ _ h=>by cases h
theorem inlC {f:Nat} {fn:Func} {c:Code} {r:List (Nat×Func)} (hf:FunOK P f fn c) (hl:IK P C (C.rank f)->∀base,LoopsOK C (λR=>C.inlK (C.rank f)) f base (ifun fn).body) (hr:∀g fn,inlL r g=some fn->InlQ P C g fn):∀g fn',inlL ((f,fn)::r) g=some fn'->InlQ P C g fn':=λg fn' e=>by
 unfold inlL at e
 split at e
 ·rename_i hg;subst hg;cases e;exact ⟨⟨_,_,hf,rfl⟩,hl⟩
 ·exact hr g fn' e
theorem Qay:∀g (h:Qbk),(none:Option Qbk)=some h->SoundP P g h:=λ_ _ h=>by cases h
theorem Qac:∀g (h:Qbk),W9 [] g=some h->SoundP P g h:=λ_ _ h=>by cases h
theorem Jn {f:Nat} {k:Qbk} {r:List (Nat×Qbk)} (hk:SoundP P f k) (hr:∀g h,W9 r g=some h->SoundP P g h):∀g h,W9 ((f,k)::r) g=some h->SoundP P g h:=λg h e=>by
 unfold W9 at e
 split at e
 ·rename_i hg;subst hg;cases e;exact hk
 ·exact hr g h e
theorem W2 (hp:∀g h,C.prim g=some h->SoundP P g h) (hi:∀g fn,C.inl g=some fn->InlQ P C g fn):InlF P C:=⟨hp,λg fn h=>(hi g fn h).1,λg fn h=>(hi g fn h).2⟩
def Wb {ρ:Type} (dec:V->Option ρ) (enc:ρ->V):Prop:=∀v r,dec v=some r->Qdn v=enc r/\imm3 (enc r)=true
theorem Qx {P:Program}:∀g vs (p:Pack),(none:Option Pack)=some p->SoundC P g vs p:=λ_ _ _ h=>by cases h
theorem Qh {P:Program}:∀g vs (p:Pack),Qg [] g vs=some p->SoundC P g vs p:=λ_ _ _ h=>by cases h
theorem Qa {P:Program} {f:Nat} {k:List V->Option Pack} {r:List (Nat×(List V->Option Pack))} (h:∀vs p,k vs=some p->SoundC P f vs p) (hr:∀g vs p,Qg r g vs=some p->SoundC P g vs p) :
  ∀g vs p,Qg ((f,k)::r) g vs=some p->SoundC P g vs p:=λg vs p e=>by
 unfold Qg at e
 split at e
 ·rename_i hg;subst hg;exact h vs p e
 ·exact hr g vs p e
theorem Qi (hT:C.T.check P=true) (hm:P.follows .mixedOrders=true) (hp:C.prim=λ_=>none) (hi:C.inl=λ_=>none) (hc:C.clone=λ_=>none) (hl:C.L=λ_ _ _ _=>none)
  (call:∀g vs p,C.call g vs=some p->SoundC P g vs p) {g:Nat} {f:Func} {c:Code} (hf:FunOK P g f c) {vs vs0:List V} {p:Pack} {dec:V->Option p.ρ}
  (hvs:vs.map Wt=vs0) (link:C.evTop g (ifun f) vs0 dec=p.m) (hdec:Wb dec p.enc) (hmt:C.meth=λ_ _=>none:=by rfl):SoundC P g vs p:=
 Qio ⟨hT,hm,λg vs p _ _ h=>call g vs p h,λg e _ h=>by rw [hc] at h;simp at h,λt m g h=>by rw [hmt] at h;simp at h⟩
  ⟨λg h hh=>by rw [hp] at hh;simp at hh,λg fn h=>by rw [hi] at h;simp at h,λg fn h=>by rw [hi] at h;simp at h⟩ hf
  (λid b _ st p hp=>by rw [hl] at hp;simp at hp) hvs link hdec
theorem Q7 (hT:C.T.check P=true) (hm:P.follows .mixedOrders=true) (hp:C.prim=λ_=>none) (hi:C.inl=λ_=>none) (hc:C.clone=λ_=>none)
  (call:∀g vs p,C.call g vs=some p->SoundC P g vs p) {g:Nat} {f:Func} {c:Code} (hf:FunOK P g f c)
  (hL:(InlOK P C λR=>C.inlK 6)->LoopsOK C (λR=>C.inlK 6) g 0 c) {vs vs0:List V} {p:Pack} {dec:V->Option p.ρ}
  (hvs:vs.map Wt=vs0) (link:C.evTop g (ifun f) vs0 dec=p.m) (hdec:Wb dec p.enc) (hmt:C.meth=λ_ _=>none:=by rfl):SoundC P g vs p:=by
 have hC:Wc P C:=⟨hT,hm,λg vs p _ _ h=>call g vs p h,λg e _ h=>by rw [hc] at h;simp at h,λt m g h=>by rw [hmt] at h;simp at h⟩
 have hF:InlF P C:=⟨λg h hh=>by rw [hp] at hh;simp at hh,λg fn h=>by rw [hi] at h;simp at h,λg fn h=>by rw [hi] at h;simp at h⟩
 exact Qio hC hF hf (hL (Qa7 hC hF 6)) hvs link hdec
theorem Y4 (hT:C.T.check P=true) (hm:P.follows .mixedOrders=true) (hc:C.clone=λ_=>none)
  (call:∀g vs p,C.call g vs=some p->SoundC P g vs p) (hF:InlF P C) {g:Nat} {f:Func} {c:Code} (hf:FunOK P g f c)
  (hL:(InlOK P C λR=>C.inlK 6)->LoopsOK C (λR=>C.inlK 6) g 0 c) {vs vs0:List V} {p:Pack} {dec:V->Option p.ρ}
  (hvs:vs.map Wt=vs0) (link:C.evTop g (ifun f) vs0 dec=p.m) (hdec:Wb dec p.enc) (hmt:C.meth=λ_ _=>none:=by rfl):SoundC P g vs p:=by
 have hC:Wc P C:=⟨hT,hm,λg vs p _ _ h=>call g vs p h,λg e _ h=>by rw [hc] at h;simp at h,λt m g h=>by rw [hmt] at h;simp at h⟩
 exact Qio hC hF hf (hL (Qa7 hC hF 6)) hvs link hdec
theorem J9 (hl:C.L=λ_ _ _ _=>none) (I:InlP) (g base:Nat) (c:Code):LoopsOK C I g base c:=λid b _ st p hp=>by rw [hl] at hp;simp at hp
end
section
variable {P:Program} {C:Ctx}
theorem Qpf (c:V):flatV (unexact c)=flatV c:=by cases c<;>rfl
theorem Qev (c:V):zOf (unexact c)=zOf c:=by cases c<;>rfl
theorem Qco (c:V):lenV (unexact c)=lenV c:=by cases c<;>rfl
end
structure Qct where
 ρ:Type
 m:Option ρ
 enc:ρ->V
 encC:ρ->List V
 encR:ρ->V
def Qbz (S:Store):List V->Option (List V×Nat×Nat×Nat×V)
 |[]=>none
 |
  [.sref r ver]=>match S.getD r .dead with
  |.arr ver' true e c=>if ver'=ver then some ([],r,ver,e,c) else none
  |_=>none
 |
  v::vs=>match Qbz S vs with
  |some p=>some (v::p.1,p.2)
  |none=>none
def subP (t e dv:Nat) (pk:List V->V->List V->Option Qct):Qd6:=λR args S K=>
 match args with
 |
  .ptr id 0::rest=>match S.getD id .dead with
  |
   .cells t' cs=>match Qbz S cs with
   |some (cs0,r,ver,e',c)=>if t'=t/\e'=e/\cs0.all imm1=true/\rest.all immV=true/\contentVal c=true then (match pk cs0 c rest with
     |some p=>p.m.bind λx=>K (p.enc x) ((S.set id (.cells t (p.encC x++[.sref r (ver+dv)]))).set r (.arr (ver+dv) true e (p.encR x)))
     |none=>none) else none
   |none=>none
  |_=>none
 |_=>none
def Ctx.evSub {R:Type} (C:Ctx) (f:Nat) (fn:IFun) (t e dv:Nat) (cs:List V) (c:V) (rest:List V) (dec:V->List V->V->Option R):Option R:=
 C.evB (C.inlK 6) f 2 fn.body ((.ptr 0 0::rest)++List.replicate (fn.ntmps-(1+rest.length)) .undef) [.cells t (cs++[.sref 1 0]),.arr 0 true e c] (C.outK fn.results λvs S=>match (Wa S vs).getD 0 .dead with
  |
   .cells t' cs'=>match Qbz (Wa S vs) cs' with
   |some (cs0,r,ver,e',c')=>if t'=t/\e'=e/\r=1/\ver=dv/\cs0.all imm1=true then dec (one (vs.map (immDeep S))) cs0 c' else none
   |none=>none
  |_=>none)
theorem Qg6 {S:Store}:∀{cs cs0:List V} {r ver e:Nat} {c:V},Qbz S cs=some (cs0,r,ver,e,c)->cs=cs0++[.sref r ver]/\S.getD r .dead=.arr ver true e c
 |[],cs0,r,ver,e,c,h=>by simp [Qbz] at h
 |
  v::vs,cs0,r,ver,e,c,h=>by
  unfold Qbz at h
  split at h
  ·rename_i e0;simp at e0
  ·rename_i r0 ver0 e0
   split at h
   case h_2=>simp at h
   rename_i ver' e' c' hk
   split at h
   case isFalse=>simp at h
   rename_i hv;subst hv
   simp only [Zs,Z2] at h
   obtain ⟨rfl,rfl,rfl,rfl,rfl⟩:=h
   exact ⟨by simpa using e0,hk⟩
  ·rename_i v' vs' hne e0
   simp only [List.cons.injEq] at e0
   obtain ⟨rfl,rfl⟩:=e0
   split at h
   case h_2=>simp at h
   rename_i p hp
   obtain ⟨p1,p2,p3,p4,p5⟩:=p
   simp only [Zs,Z2] at h
   obtain ⟨rfl,rfl,rfl,rfl,rfl⟩:=h
   obtain ⟨h1,h2⟩:=Qg6 hp
   exact ⟨by rw [h1];rfl,h2⟩
section
variable {P:Program} {C:Ctx}
theorem Qjc {w:World} {O:Nat->Prop} {e:Nat} {c:V} {loc:Loc} (h:Qc6 w O true e c loc):Qc6 w O true e (unexact c) loc:=by
 cases loc with
 |nil a=>exact ⟨rfl,by rw [Qpf];exact h.2⟩
 |
  blk b o cap=>
  obtain ⟨n',fl,cur,fz,a1,a2,a3,a4,a5,a6,a7,a8,a9,a10⟩:=h
  exact ⟨n',fl,cur,fz,by rw [Qpf];exact a1,a2,a3,a4,a5,by rw [Qev];exact a6,a7,λh=>by simp at h,a9,a10⟩
theorem Qtu (hC:Wc P C) (hF:InlF P C) {g:Nat} {f:Func} {c:Code} (hf:FunOK P g f c) {t e dv:Nat} (hL:LoopsOK C (λR=>C.inlK 6) g 2 c) {pk:List V->V->List V->Option Qct}
  (H:∀cs ct rest p,pk cs ct rest=some p->∃(cs0:List V) (ct0:V) (rest0:List V) (dec:V->List V->V->Option p.ρ),cs.map unexact=cs0/\unexact ct=ct0/\rest.map Wt=rest0/\C.evSub g (ifun f) t e dv cs0 ct0 rest0 dec=p.m /\
   ∀v cs' ct' r,dec v cs' ct'=some r->Qdn v=p.enc r/\imm3 (p.enc r)=true/\cs'.map unexact=p.encC r/\unexact ct'=p.encR r):SoundP P g (subP t e dv pk):=by
 refine ⟨λR args S K=>?_,λargs S v S' M cargs h hN hsz hr=>?_⟩
 ·unfold subP
  repeat' split
  all_goals first|rfl|skip
  rename_i p _
  cases p.m<;>rfl
 unfold subP at h
 split at h
 case h_2=>simp at h
 rename_i id rest
 split at h
 case h_2=>simp at h
 rename_i t' cs hk
 split at h
 case h_2=>simp at h
 rename_i cs0 r ver e' ct hlast
 split at h
 case isFalse=>simp at h
 rename_i hcond
 obtain ⟨rfl,rfl,hall,hrest,hctv⟩:=hcond
 split at h
 case h_2=>simp at h
 rename_i p hp
 simp only [Z5] at h
 obtain ⟨x,hm,hK⟩:=h
 simp only [K0,Zs,Z2] at hK
 obtain ⟨rfl,rfl⟩:=hK
 obtain ⟨rfl,hkr⟩:=Qg6 hlast
 obtain ⟨cs1,ct1,rest1,dec,hcs1,hct1,hrest1,link,hdec⟩:=H cs0 ct rest p hp
 subst hcs1;subst hct1;subst hrest1
 have hkM:M.S id=.cells t' (cs0++[.sref r ver]):=(hN.is id).trans hk
 have hkR:M.S r=.arr ver true e' ct:=(hN.is r).trans hkr
 have hne:id≠r:=λe0=>by subst e0;rw [hk] at hkr;simp at hkr
 have hlt:id<S.length:=Wk hk (by simp)
 have hltr:r<S.length:=Wk hkr (by simp)
 have hx:=hr 0 (by simp)
 obtain ⟨_,_,hpp⟩:=Ya hx
 obtain ⟨b,o,cap,hμ,hcv⟩:=hpp (by rw [show M.S id=_ from hkM];rfl)
 have hbl:=hN.ok.blk _ _ hμ
 rw [hkM] at hbl
 obtain ⟨b',o',cap',e2,hO,hltb,⟨ho,hsh⟩,hc⟩:=hbl
 cases e2
 subst ho
 obtain ⟨cvr,hcell,honer,hrepr,_⟩:=hc cs0.length (by simp)
 have e3:(cs0++[V.sref r ver])[cs0.length]'(by simp)=.sref r ver:=by simp
 rw [e3] at hrepr
 obtain ⟨_,⟨hsome,_⟩,hrp⟩:=W0 hrepr
 obtain ⟨loc,n,hμr,hn,hcvr⟩:=hrp ct (by rw [hkR];simp [contentB])
 have hblr:=hN.ok.blk _ _ hμr
 rw [hkR] at hblr
 obtain ⟨hB0,hB⟩:=hblr
 let M1:Mem:=⟨M.w,M.O,λj=>if j=0 then some (.blk b 0 cap) else if j=1 then some loc else none,λj=>if j=0 then .cells t' (cs0.map unexact++[.sref 1 0]) else if j=1 then .arr 0 true e' (unexact ct) else .dead⟩
 have own1:∀b1,M1.own b1↔b1=b\/∃o cap,loc=.blk b1 o cap:=λb1=>by
  constructor
  ·rintro ⟨j,o,cap,h1,h2⟩
   by_cases h0:j=0
   ·subst h0;left;simp [M1] at h2;exact h2.1.symm
   ·by_cases hj:j=1
    ·subst hj;right;exact ⟨o,cap,by simpa [M1] using h2⟩
    ·simp [M1,h0,hj] at h2
  ·rintro (rfl|⟨o,cap,h⟩)
   ·exact ⟨0,0,cap,rfl,by simp [M1]⟩
   ·exact ⟨1,o,cap,rfl,by simp [M1,h]⟩
 have ownM:∀b1,M1.own b1->M.own b1:=λb1 hb=>by
  rcases (own1 b1).1 hb with rfl|⟨o,cap,h⟩
  ·exact ⟨id,0,cap,by rw [hkM];rfl,hμ⟩
  ·exact ⟨r,o,cap,by rw [hkR];rfl,by rw [hμr,h]⟩
 have hlocne:∀o cap,loc≠.blk b o cap:=λo cap0 e0=>hne (hN.ok.inj id r b 0 o cap cap0 (by rw [hkM];rfl) (by rw [hkR];rfl) hμ (by rw [hμr,e0]))
 have hlenu:=Qco ct
 have honeS:∀(l:Loc) (k:Nat),(Q0 l k).oneCell'=true:=λl k=>by cases l<;>rfl
 have hsref1:∀cv,cv=cvr->Rep M1 cv (.sref 1 0):=λcv hcv1=>by
  subst hcv1
  exact .ref ⟨by rw [hcvr];exact honeS _ _,⟨by simp [M1],λv hv=>by simp [M1,verB] at hv;omega⟩,λc' hc'=>by
   have:c'=unexact ct:=by simpa [M1,contentB] using hc'.symm
   exact ⟨loc,n,by simp [M1],by rw [this,hlenu];exact hn,hcvr⟩⟩
 have hok1:M1.ok:=by
  refine ⟨λj l h=>?_,λi j b1 o1 o2 cap1 cap2 h1 h2 h3 h4=>?_,λb1 hb=>hN.ok.low b1 hb⟩
  ·by_cases h0:j=0
   ·subst h0
    have:l=.blk b 0 cap:=by simpa [M1] using h.symm
    subst this
    refine ⟨b,0,cap,rfl,hO,hltb,⟨rfl,by rw [hsh];simp⟩,λi hi=>?_⟩
    have hi':i<(cs0++[V.sref r ver]).length:=by simpa using hi
    obtain ⟨cv,a1,a2,a3,a4⟩:=hc i hi'
    refine ⟨cv,a1,a2,?_,a4⟩
    by_cases hil:i<cs0.length
    ·have e4:(cs0.map unexact++[V.sref 1 0])[i]'hi=unexact cs0[i]:=by rw [Z27 (by simpa using hil),Z20]
     have e5:(cs0++[V.sref r ver])[i]'hi'=cs0[i]:=Z27 hil
     rw [e5] at a3
     rw [e4]
     have q9:Rep0 M1.O M1.w cv cs0[i]:=Qeo (M:=M) a3 (Z23.1 hall _ (Z15 hil))
     exact Qea (.imm q9)
    ·have hie:i=cs0.length:=by simp at hi;omega
     subst hie
     have e4:(cs0.map unexact++[V.sref 1 0])[cs0.length]'hi=.sref 1 0:=by rw [Z37 (by simp)];simp
     rw [e4]
     refine hsref1 cv ?_
     rw [a1] at hcell;simpa using hcell
   ·by_cases hj:j=1
    ·subst hj
     have:l=loc:=by simpa [M1] using h.symm
     subst this
     exact ⟨hB0,Qjc hB⟩
    ·simp [M1,h0,hj] at h
  ·have c1:i=0\/i=1:=by
    by_cases h0:i=0
    ·exact .inl h0
    ·by_cases hj:i=1
     ·exact .inr hj
     ·simp [M1,h0,hj] at h3
   have c2:j=0\/j=1:=by
    by_cases h0:j=0
    ·exact .inl h0
    ·by_cases hj:j=1
     ·exact .inr hj
     ·simp [M1,h0,hj] at h4
   rcases c1 with rfl|rfl<;>rcases c2 with rfl|rfl
   ·rfl
   ·simp [M1] at h3 h4;obtain ⟨rfl,_⟩:=h3;exact (hlocne _ _ h4).elim
   ·simp [M1] at h3 h4;obtain ⟨rfl,_⟩:=h4;exact (hlocne _ _ h3).elim
   ·rfl
 have hN1:Now M1 [.cells t' (cs0.map unexact++[.sref 1 0]),.arr 0 true e' (unexact ct)]:=by
  refine ⟨hok1,λj=>?_,λj hj=>?_⟩
  ·match j with
   |0=>rfl
   |1=>rfl
   |j+2=>simp [M1]
  ·have h0:j≠0:=by simp at hj;omega
   have h1:j≠1:=by simp at hj;omega
   simp [M1,h0,h1]
 have hargs1:∀j (h:j<(V.ptr 0 0::rest.map Wt).length),Rep M1 (cargs.getD j Go.undef) (V.ptr 0 0::rest.map Wt)[j]:=λj hj=>by
  cases j with
  |
   zero=>
   rw [hcv]
   exact .ref ⟨rfl,by simp [M1],λ_=>⟨b,0,cap,by simp [M1],by simp⟩⟩
  |
   succ j=>
   have hj':j<rest.length:=by simpa using hj
   have hx:=hr (j+1) (by simpa using hj')
   have h3:Rep0 M.O M.w (cargs.getD (j+1) Go.undef) rest[j]:=Qah hx (Z23.1 hrest _ (Z15 hj'))
   simp only [List.getElem_cons_succ,Z20]
   exact Qd3 (.imm h3)
 have ih:=Qa7 hC hF 6
 rw [hm] at link
 unfold Ctx.evSub at link
 rw [Qbo ih] at link
 simp only [Z5] at link
 obtain ⟨⟨us,S1⟩,⟨⟨ex,env',S2⟩,h1,h2⟩,h3⟩:=link
 obtain ⟨hne',h2',rfl⟩:=Qew h2
 rw [Qfp hf] at h1
 have hal:(V.ptr 0 0::rest.map Wt).length=1+rest.length:=by simp;omega
 have h1':C.evB (C.inlK 6) g [Blk.cells t' (cs0.map unexact++[.sref 1 0]),.arr 0 true e' (unexact ct)].length c ((V.ptr 0 0::rest.map Wt)++List.replicate (f.ntmps-(V.ptr 0 0::rest.map Wt).length) .undef) [.cells t' (cs0.map unexact++[.sref 1 0]),.arr 0 true e' (unexact ct)] KK=some (ex,env',S1):=by
  rw [hal];rw [Z13] at h1;exact h1
 have hcalls:=Qfq (S:=[.cells t' (cs0.map unexact++[.sref 1 0]),.arr 0 true e' (unexact ct)]) hC ih hf hL hN1 (by rw [hal];simp at hsz;omega) hargs1 h1' hne' h2'
 unfold CallR
 rw [hf.enters]
 refine hcalls.mono λex w' ⟨cv,M0,he,hw,h50,h60,h70,h80⟩=>?_
 subst he;subst hw
 obtain ⟨M',hfz⟩:=Qcb us h60.ok h60.is
 have h6:=hfz.now h60
 have h5:=h50.trans hfz.step
 have hw':M'.w=M0.w:=hfz.w
 have himm:∀v∈us,∀{cv},Rep M0 cv v->Rep M' cv (immDeep S1 v):=λv hv cv h=>by
  have h8:=Qem h6.ok h6.is (hfz.step.rep h60.ok h) λu hu=>Qcd us (.inr ⟨v,hv,hu⟩)
  have h9:immDeep (Wa S1 us) v=immDeep S1 v:=by
   have hh:=Qdk hfz.content
   unfold immDeep
   split
   ·congr 1;exact Z108 λu _=>hh u
   ·exact hh _
  rwa [h9] at h8
 have h7:Rep M' cv (one (us.map (immDeep S1))):=by
  match us,h70,himm with
  |
   [],h7,_=>
   obtain ⟨cvs,rfl,hl,hr⟩:=Qag h7
   exact .tup cvs [] hl λj hj=>by simp at hj
  |[v],h7,himm=>exact himm v (by simp) h7
  |
   v::u::rest,h7,himm=>
   obtain ⟨cvs,rfl,hl,hr⟩:=Qag h7
   refine .tup cvs ((v::u::rest).map (immDeep S1)) (by simpa using hl) λj hj=>?_
   have hj':j<(v::u::rest).length:=by simpa using hj
   have e1:((v::u::rest).map (immDeep S1))[j]=immDeep S1 (v::u::rest)[j]:=Z20 ..
   rw [e1];exact himm _ (Z15 _) (hr j hj')
 split at h3
 case h_2=>simp at h3
 rename_i t2 csF hk'
 split at h3
 case h_2=>simp at h3
 rename_i cs' r' ver' e2 ct' hlast'
 split at h3
 case isFalse=>simp at h3
 rename_i hcond'
 obtain ⟨rfl,rfl,rfl,rfl,hall'⟩:=hcond'
 obtain ⟨rfl,hkr'⟩:=Qg6 hlast'
 obtain ⟨hd1,hd2,hd3,hd4⟩:=hdec _ _ _ _ h3
 have hk0':M'.S 0=.cells t2 (cs'++[.sref 1 ver']):=(h6.is 0).trans hk'
 have hk1':M'.S 1=.arr ver' true e2 ct':=(h6.is 1).trans hkr'
 have href:M1.Ref (.pointer (some ⟨b,0,none⟩)) (.ptr 0 0):=⟨rfl,by simp [M1],λ_=>⟨b,0,cap,by simp [M1],by simp⟩⟩
 obtain ⟨_,_,hpp'⟩:=h5.refs _ _ href
 obtain ⟨b2,o2,cap2,hμ0',e4⟩:=hpp' (by rw [hk0'];rfl)
 have hbl':=h6.ok.blk _ _ hμ0'
 rw [hk0'] at hbl'
 obtain ⟨b3,o3,cap3,e5,hO',hltb',⟨ho',hsh'⟩,hc'⟩:=hbl'
 cases e5
 subst ho'
 simp only [Value.pointer.injEq,Zs,Addr.mk.injEq] at e4
 obtain ⟨rfl,_,_⟩:=e4
 obtain ⟨cvr',hcell',honer',hrepr',hfr'⟩:=hc' cs'.length (by simp)
 have e6:(cs'++[V.sref 1 ver'])[cs'.length]'(by simp)=.sref 1 ver':=by simp
 rw [e6] at hrepr'
 obtain ⟨_,⟨hsome',_⟩,hrp'⟩:=W0 hrepr'
 obtain ⟨loc',n',hμ1',hn',hcvr'⟩:=hrp' ct' (by rw [hk1'];simp [contentB])
 have hblr':=h6.ok.blk _ _ hμ1'
 rw [hk1'] at hblr'
 obtain ⟨hB0',hB'⟩:=hblr'
 have own':∀b1 o cap,loc'=.blk b1 o cap->M'.own b1:=λb1 o cap0 h=>⟨1,o,cap0,by rw [hk1'];rfl,by rw [hμ1',h]⟩
 have hO3:∀b1,b1<M.w.heap.size->¬M1.own b1->(M'.O b1↔M.O b1):=λb1 hb ho=>(h5.keep b1 hb ho).2
 let M3:Mem:=⟨M'.w,λb1=>M'.O b1/\(M.O b1\/∃o cap,loc'=.blk b1 o cap),upd M.μ r (some loc'),λj=>((S.set id (.cells t2 (p.encC x++[.sref r (ver+ver')]))).set r (.arr (ver+ver') true e2 (p.encR x))).getD j .dead⟩
 have s3r:M3.S r=.arr (ver+ver') true e2 (p.encR x):=by
  show ((S.set id _).set r _).getD r .dead=_
  rw [getD_set_store (by rw [Z21];exact hltr),if_pos rfl]
 have s3i:M3.S id=.cells t2 (p.encC x++[.sref r (ver+ver')]):=by
  show ((S.set id _).set r _).getD id .dead=_
  rw [getD_set_store (by rw [Z21];exact hltr),if_neg hne,getD_set_store hlt,if_pos rfl]
 have s3:∀j,j≠id->j≠r->M3.S j=M.S j:=λj h0 h1=>by
  rw [hN.is]
  show ((S.set id _).set r _).getD j .dead=_
  rw [getD_set_store (by rw [Z21];exact hltr),if_neg h1,getD_set_store hlt,if_neg h0]
 have m3r:M3.μ r=some loc':=upd_same
 have m3:∀j,j≠r->M3.μ j=M.μ j:=λj h=>upd_ne h
 have newM:∀b1 o cap,loc'=.blk b1 o cap->b1<M.w.heap.size->M.own b1:=λb1 o cap0 h hb=>ownM b1 (h5.own' b1 hb (own' b1 o cap0 h))
 have lowO:∀{b1},M.O b1->b1<M.w.heap.size:=λ{b1} h=>hN.ok.low b1 h
 have hS3:Step M M3:=by
  refine ⟨h5.size,h5.os,h5.tape,h5.output,λb1 hb hn=>?_,λb1 hb h=>?_,λb1 hb ⟨j,o,cap0,h1,h2⟩=>?_,λcv1 v1 ⟨h1,h2⟩=>⟨h1,?_⟩⟩
  ·have hno:¬M1.own b1:=λho=>hn (ownM b1 ho)
   refine ⟨(h5.keep b1 hb hno).1,λh=>?_,λh=>⟨(hO3 b1 hb hno).2 h,.inl h⟩⟩
   exact (hO3 b1 hb hno).1 h.1
  ·rcases h.2 with h2|⟨o,cap0,h2⟩
   ·exact h2
   ·exact hN.ok.own (newM b1 o cap0 h2 hb)
  ·by_cases hj:j=r
   ·subst hj
    rw [m3r,Zs] at h2
    exact newM b1 o cap0 h2 hb
   ·rw [m3 j hj] at h2
    by_cases hji:j=id
    ·subst hji;exact ⟨j,o,cap0,by rw [hkM];rfl,h2⟩
    ·exact ⟨j,o,cap0,by rw [<-s3 j hji hj];exact h1,h2⟩
  ·have hle:∀ver1,verLe (M.S r) ver1->verLe (M3.S r) ver1:=λver1 h=>by
    have hv:ver1<=ver:=h ver (by rw [hkR];rfl)
    rw [s3r];intro v hv';simp [verB] at hv';omega
   have hcon:∀ver1 c,verLe (M.S r) ver1->contentB (M3.S r) ver1=some c->ver'=0/\ver1=ver/\c=p.encR x:=λver1 c h hc=>by
    have hv:ver1<=ver:=h ver (by rw [hkR];rfl)
    rw [s3r] at hc
    simp only [contentB] at hc
    split at hc
    ·simp only [Zs] at hc;exact ⟨by omega,by omega,hc.symm⟩
    ·simp at hc
   have hct:contentB (M.S r) ver=some ct:=by rw [hkR];simp [contentB]
   have hcM:ver'=0->contentB (M'.S 1) 0=some ct':=λh0=>by rw [hk1',h0];simp [contentB]
   have v1le:verLe (M1.S 1) 0:=λv hv=>by simp [M1,verB] at hv;omega
   have c1:∀c,contentB (M1.S 1) 0=some c->c=unexact ct:=λc hc=>by simpa [M1,contentB] using hc.symm
   have len9:lenV (p.encR x)=lenV ct':=by rw [<-hd4,Qco]
   have z9:zOf (p.encR x)=zOf ct':=by rw [<-hd4,Qev]
   have two:∀j ver1,j≠r->((M.μ j).isSome=true/\verLe (M.S j) ver1)->(((M3.μ j).isSome=true/\verLe (M3.S j) ver1)/\∀c,contentB (M3.S j) ver1=some c->contentB (M.S j) ver1=some c/\M3.μ j=M.μ j):=λj ver1 hj h2=>by
    rw [m3 j hj]
    by_cases hji:j=id
    ·subst hji
     rw [s3i]
     exact ⟨⟨h2.1,λv hv=>by simp [verB] at hv⟩,λc hc=>by simp [contentB] at hc⟩
    ·rw [s3 j hji hj];exact ⟨h2,λc hc=>⟨hc,rfl⟩⟩
   have onep:∀j,(M.μ j).isSome=true->((M3.μ j).isSome=true/\((M3.S j).fix=true->(M.S j).fix=true/\M3.μ j=M.μ j)):=λj h2=>by
    by_cases hj:j=r
    ·subst hj;rw [s3r,m3r];exact ⟨rfl,λhf=>by simp [Blk.fix] at hf⟩
    ·rw [m3 j hj]
     by_cases hji:j=id
     ·subst hji;exact ⟨h2,λ_=>⟨by rw [hkM];rfl,rfl⟩⟩
     ·rw [s3 j hji hj];exact ⟨h2,λh=>⟨h,rfl⟩⟩
   cases v1 with
   |
    ptr j off=>
    simp only [Mem.Ref1] at h2 ⊢
    obtain ⟨a1,a2⟩:=onep _ h2.1
    exact ⟨a1,λhf=>by obtain ⟨e8,e9⟩:=a2 hf;rw [e9];exact h2.2 e8⟩
   |
    eptr j ver1 i off=>
    simp only [Mem.Ref1] at h2 ⊢
    by_cases hj:j=r
    ·subst hj
     refine ⟨⟨by rw [m3r];rfl,hle _ h2.1.2⟩,λc hc=>?_⟩
     obtain ⟨h0,hv1,hcx⟩:=hcon _ _ h2.1.2 hc
     subst hv1;subst hcx
     obtain ⟨b8,o8,cap8,q1,q2⟩:=h2.2 _ hct
     rw [hμr,Zs] at q1
     have hM1:M1.Ref cv1 (.eptr 1 0 i off):=⟨h1,⟨by simp [M1],v1le⟩,λc hc=>by rw [c1 c hc,Qev];exact ⟨b8,o8,cap8,by simp [M1,q1],q2⟩⟩
     obtain ⟨_,_,g2⟩:=h5.refs _ _ hM1
     obtain ⟨b7,o7,cap7,g3,g4⟩:=g2 _ (hcM h0)
     exact ⟨b7,o7,cap7,by rw [m3r,<-hμ1',g3],by rw [z9];exact g4⟩
    ·obtain ⟨a1,a2⟩:=two _ _ hj h2.1
     exact ⟨a1,λc hc=>by obtain ⟨e8,e9⟩:=a2 c hc;rw [e9];exact h2.2 c e8⟩
   |
    sref j ver1=>
    simp only [Mem.Ref1] at h2 ⊢
    by_cases hj:j=r
    ·subst hj
     refine ⟨⟨by rw [m3r];rfl,hle _ h2.1.2⟩,λc hc=>?_⟩
     obtain ⟨h0,hv1,hcx⟩:=hcon _ _ h2.1.2 hc
     subst hv1;subst hcx
     obtain ⟨l8,n8,q1,q2,q3⟩:=h2.2 _ hct
     rw [hμr,Zs] at q1
     have hM1:M1.Ref cv1 (.sref 1 0):=⟨h1,⟨by simp [M1],v1le⟩,λc hc=>by rw [c1 c hc,Qco];exact ⟨l8,n8,by simp [M1,q1],q2,q3⟩⟩
     obtain ⟨_,_,g2⟩:=h5.refs _ _ hM1
     obtain ⟨l7,n7,g3,g4,g5⟩:=g2 _ (hcM h0)
     exact ⟨l7,n7,by rw [m3r,<-hμ1',g3],by rw [len9];exact g4,g5⟩
    ·obtain ⟨a1,a2⟩:=two _ _ hj h2.1
     exact ⟨a1,λc hc=>by obtain ⟨e8,e9⟩:=a2 c hc;rw [e9];exact h2.2 c e8⟩
   |
    sview j ver1 lo len=>
    simp only [Mem.Ref1] at h2 ⊢
    by_cases hj:j=r
    ·subst hj
     refine ⟨⟨by rw [m3r];rfl,hle _ h2.1.2⟩,λc hc=>?_⟩
     obtain ⟨h0,hv1,hcx⟩:=hcon _ _ h2.1.2 hc
     subst hv1;subst hcx
     obtain ⟨l8,n8,a8,cap8,q1,q2⟩:=h2.2 _ hct
     rw [hμr,Zs] at q1
     have hM1:M1.Ref cv1 (.sview 1 0 lo len):=⟨h1,⟨by simp [M1],v1le⟩,λc hc=>by rw [c1 c hc,Qco,Qev];exact ⟨l8,n8,a8,cap8,by simp [M1,q1],q2⟩⟩
     obtain ⟨_,_,g2⟩:=h5.refs _ _ hM1
     obtain ⟨l7,n7,a7,cap7,g3,g4⟩:=g2 _ (hcM h0)
     exact ⟨l7,n7,a7,cap7,by rw [m3r,<-hμ1',g3],by rw [len9,z9];exact g4⟩
    ·obtain ⟨a1,a2⟩:=two _ _ hj h2.1
     exact ⟨a1,λc hc=>by obtain ⟨e8,e9⟩:=a2 c hc;rw [e9];exact h2.2 c e8⟩
   |_=>exact h2.elim
 have mono:∀{cv1:Value} {v1:V},Rep0 M'.O M'.w cv1 v1->Rep0 M3.O M'.w cv1 v1:=λ{cv1 v1} h=>h.mono (λa v _ h=>h) λa v hno hcell hOa=>hno hOa.1
 have hsrefR:Rep M3 cvr' (.sref r (ver+ver')):=by
  refine .ref ⟨by rw [hcvr'];exact honeS _ _,⟨by rw [m3r];rfl,λv hv=>by rw [s3r] at hv;simp [verB] at hv;omega⟩,λc1 hc1=>?_⟩
  rw [s3r] at hc1
  have:c1=p.encR x:=by simpa [contentB] using hc1.symm
  exact ⟨loc',n',m3r,by rw [this,<-hd4,Qco];exact hn',hcvr'⟩
 have hok3:M3.ok:=by
  refine ⟨λj l h=>?_,λi j b1 o1 o2 cap1 cap2 h1 h2 h3 h4=>?_,λb1 hb=>h6.ok.low b1 hb.1⟩
  ·by_cases hj:j=r
   ·subst hj
    rw [m3r,Zs] at h
    subst h
    rw [s3r,<-hd4]
    refine ⟨λb1 o1 cap1 e0=>⟨⟨(hB0' b1 o1 cap1 e0).1,.inr ⟨o1,cap1,e0⟩⟩,(hB0' b1 o1 cap1 e0).2⟩,Qjc ?_⟩
    cases loc' with
    |nil a=>exact hB'
    |
     blk b1 o1 cap1=>
     obtain ⟨n9,fl,cur,fz,a1,a2,a3,a4,a5,a6,a7,a8,a9,a10⟩:=hB'
     exact ⟨n9,fl,cur,fz,a1,a2,a3,a4,a5,a6,a7,a8,a9,λj hj=>⟨mono (a10 j hj).1,(a10 j hj).2⟩⟩
   ·rw [m3 j hj] at h
    by_cases hji:j=id
    ·subst hji
     rw [hμ] at h
     simp only [Zs] at h;subst h
     rw [s3i]
     refine ⟨b,0,cap,rfl,⟨hO',.inl hO⟩,hltb',⟨rfl,by rw [hsh',<-hd3];simp⟩,λi hi=>?_⟩
     have hcl:(p.encC x).length=cs'.length:=by rw [<-hd3];simp
     have hi':i<(cs'++[V.sref 1 ver']).length:=by simpa [hcl] using hi
     obtain ⟨cv1,a1,a2,a3,a4⟩:=hc' i hi'
     refine ⟨cv1,a1,a2,?_,a4⟩
     by_cases hil:i<cs'.length
     ·have q1:(p.encC x++[V.sref r (ver+ver')])[i]'hi=unexact cs'[i]:=by
       rw [Z27 (by omega)]
       simp only [<-hd3,Z20]
      have q2:(cs'++[V.sref 1 ver'])[i]'hi'=cs'[i]:=Z27 hil
      rw [q2] at a3
      rw [q1]
      exact Qea (.imm (mono (Qeo a3 (Z23.1 hall' _ (Z15 hil)))))
     ·have hie:i=cs'.length:=by simp at hi';omega
      subst hie
      have q1:(p.encC x++[V.sref r (ver+ver')])[cs'.length]'hi=.sref r (ver+ver'):=by rw [Z37 (by omega)];simp [hcl]
      rw [q1]
      have:cv1=cvr':=by rw [a1] at hcell';simpa using hcell'
      rw [this];exact hsrefR
    ·rw [s3 j hji hj]
     refine Qb4 hN.ok hS3 (hN.ok.blk j l h) λho b1 o1 cap1 he=>?_
     subst he
     have hO1:=hN.ok.own ⟨j,o1,cap1,ho,h⟩
     have hno:¬M1.own b1:=λho1=>by
      rcases (own1 b1).1 ho1 with rfl|⟨o9,cap9,e9⟩
      ·exact hji (hN.ok.inj j id b1 o1 0 cap1 cap ho (by rw [hkM];rfl) h hμ)
      ·exact hj (hN.ok.inj j r b1 o1 o9 cap1 cap9 ho (by rw [hkR];rfl) h (by rw [hμr,e9]))
     have hlt1:=hN.ok.low b1 hO1
     exact ⟨(h5.keep b1 hlt1 hno).1,(hO3 b1 hlt1 hno).2 hO1,.inl hO1⟩
  ·have key:∀i,i≠r->(M3.S i).own=true->(M.S i).own=true:=λi hi h=>by
    by_cases hii:i=id
    ·subst hii;rw [hkM];rfl
    ·rw [<-s3 i hii hi];exact h
   have rowne:∀i b1 o1 o2 cap1 cap2,i≠r->(M3.S i).own=true->M3.μ i=some (.blk b1 o1 cap1)->loc'=.blk b1 o2 cap2->False:=λi b1 o1 o2 cap1 cap2 hi ho h e0=>by
    rw [m3 i hi] at h
    have hoM:=key i hi ho
    have hlt1:=hN.ok.low b1 (hN.ok.own ⟨i,o1,cap1,hoM,h⟩)
    rcases (own1 b1).1 (h5.own' b1 hlt1 (own' b1 o2 cap2 e0)) with rfl|⟨o9,cap9,e9⟩
    ·exact absurd (h6.ok.inj 0 1 b1 _ o2 _ cap2 (by rw [hk0'];rfl) (by rw [hk1'];rfl) hμ0' (by rw [hμ1',e0])) (by decide)
    ·exact hi (hN.ok.inj i r b1 o1 o9 cap1 cap9 hoM (by rw [hkR];rfl) h (by rw [hμr,e9]))
   by_cases hi:i=r<;>by_cases hj:j=r
   ·rw [hi,hj]
   ·subst hi;rw [m3r,Zs] at h3;exact (rowne j b1 o2 o1 cap2 cap1 hj h2 h4 h3).elim
   ·subst hj;rw [m3r,Zs] at h4;exact (rowne i b1 o1 o2 cap1 cap2 hi h1 h3 h4).elim
   ·rw [m3 i hi] at h3;rw [m3 j hj] at h4
    exact hN.ok.inj i j b1 o1 o2 cap1 cap2 (key i hi h1) (key j hj h2) h3 h4
 have h9:=Qns h7
 rw [hd1] at h9
 refine ⟨M3,hw',hS3,⟨hok3,λj=>rfl,λj hj=>?_⟩,.imm (mono (Qpn h9 hd2)),by simp⟩
 simp only [Z21] at hj
 rw [m3 j (by omega)]
 exact hN.fresh j hj
theorem Qho (hT:C.T.check P=true) (hm:P.follows .mixedOrders=true) (hc:C.clone=λ_=>none) (call:∀g vs p,C.call g vs=some p->SoundC P g vs p) (hF:InlF P C) {g:Nat} {f:Func} {c:Code} (hf:FunOK P g f c)
  (hl:C.L=λ_ _ _ _=>none) {t e dv:Nat} {pk:List V->V->List V->Option Qct} (H:∀cs ct rest p,pk cs ct rest=some p->∃(cs0:List V) (ct0:V) (rest0:List V) (dec:V->List V->V->Option p.ρ),cs.map unexact=cs0/\unexact ct=ct0/\rest.map Wt=rest0/\C.evSub g (ifun f) t e dv cs0 ct0 rest0 dec=p.m /\
   ∀v cs' ct' r,dec v cs' ct'=some r->Qdn v=p.enc r/\imm3 (p.enc r)=true/\cs'.map unexact=p.encC r/\unexact ct'=p.encR r) (hmt:C.meth=λ_ _=>none:=by rfl):SoundP P g (subP t e dv pk):=
 Qtu ⟨hT,hm,λg vs p _ _ h=>call g vs p h,λg e _ h=>by rw [hc] at h;simp at h,λt m g h=>by rw [hmt] at h;simp at h⟩ hF hf (J9 hl _ _ _ _) H
end
end Go.Proofs.YtihfdjkjpncjfaaGreatDoor.A
end
