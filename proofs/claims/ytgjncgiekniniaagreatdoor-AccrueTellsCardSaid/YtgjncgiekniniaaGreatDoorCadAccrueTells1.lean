/- AccrueTells: part 1 of what is its own. -/
import Derived.Test.YtgjncgiekniniaaGreatDoorCadAccrueTells0
import Derived.Test.YtgjncgiekniniaaGreatDoorRows
import Derived.WalkKit
import Derived.ProofKit
import Derived.OpenShut
import Derived.Carry
import Derived.ChangeSame
import Derived.Deep.Slices
import Derived.Test.YtgjncgiekniniaaGreatDoorCards
import Derived.Test.YtgjncgiekniniaaGreatDoorTie
import Derived.KernelRfl
import Derived.JoinedCond
import Derived.Deep.DeepHandedRow
import Derived.Lib.LaidTab
set_option linter.unusedVariables false
set_option linter.unusedSimpArgs false
section
namespace Go.Proofs.YtgjncgiekniniaaGreatDoor.A
open Go Go.RowKit Go.ChangeShapes Go.WideShapes
noncomputable section
inductive SC where
 |b
 |i (k:IntKind)
 |s
inductive CT where
 |sc (c:SC)
 |sl (cs:List SC)
def scOf:CT->Option SC
 |.sc c=>some c
 |_=>none
def Q4n:List CT->Option (List SC)
 |[]=>some []
 |c::l=>(scOf c).bind λx=>(Q4n l).map (x :: ·)
def okS:SC->V->Prop
 |.b,v=>∃x,v=.bool x
 |.i k,v=>∃n,v=.int k n/\(Lit.int k n).wf=true
 |.s,v=>∃l,v=.str l/\l.length<=maxLen
def okSL:List SC->List V->Prop
 |[],vs=>vs=[]
 |c::cs,vs=>∃v l,vs=v::l/\okS c v/\okSL cs l
def okC:CT->V->Prop
 |.sc c,v=>okS c v
 |.sl [.i k],v=>∃l,v=.ints false k l/\(∀n∈l,(Lit.int k n).wf=true)/\l.length<=maxLen
 |.sl [.s],v=>∃l,v=.strs false l/\(∀s∈l,s.length<=maxLen)/\l.length<=maxLen
 |.sl cs,v=>∃l,v=.recs false cs.length l/\(∀r∈l,okSL cs r)/\l.length<=maxLen
def okCL:List CT->List V->Prop
 |[],vs=>vs=[]
 |c::cs,vs=>∃v l,vs=v::l/\okC c v/\okCL cs l
def ctsF (P:Program) (rec:TypeId->Option (List CT)):Nat->List Field->Option (List CT)
 |_,[]=>some []
 |off,f::fs=>if f.offset=off then (rec f.type).bind λl=>if P.cellsOf f.type=l.length then (ctsF P rec (off+l.length) fs).map (l ++ ·) else none else none
def ctsA (l:List CT):Nat->List CT
 |0=>[]
 |n+1=>l++ctsA l n
def cts (P:Program):Nat->TypeId->Option (List CT)
 |0,_=>none
 |
  n+1,t=>
  match P.underlying t with
  |some .bool=>some [.sc .b]
  |some (.int k)=>some [.sc (.i k)]
  |some .string=>some [.sc .s]
  |some (.struct fs)=>(ctsF P (cts P n) 0 fs.toList).bind λl=>if P.cellsOf t=l.length then some l else none
  |some (.array m e)=>(cts P n e).bind λl=>if P.cellsOf e=l.length/\P.cellsOf t=m*l.length then some (ctsA l m) else none
  |some (.slice e)=>(cts P n e).bind λl=>(Q4n l).bind λcs=>if P.cellsOf e=cs.length/\0<cs.length then some [.sl cs] else none
  |_=>none
abbrev noO:Nat->Prop:=λ_=>False
def Q4s (W:World) (c:CT) (cv:Value) (v:V):Prop:=okC c v/\Rep0 noO W cv v/\cv.oneCell'=true
def Q4i (W:World) (l:List CT) (cs:List Value) (vs:List V):Prop:=
 cs.length=l.length/\vs.length=l.length/\∀(j:Nat) (c:CT) (cv:Value) (v:V),l[j]? = some c->cs[j]? = some cv->vs[j]? = some v->Q4s W c cv v
theorem cellsR_nil (W:World):Q4i W [] [] []:=⟨rfl,rfl,λ(j:Nat) c cv v h=>by simp at h⟩
theorem Q4o {W:World} {c:CT} {cv:Value} {v:V} (h:Q4s W c cv v):Q4i W [c] [cv] [v]:=by
 refine ⟨rfl,rfl,λj c' cv' v' h1 h2 h3=>?_⟩
 cases j with
 |zero=>simp at h1 h2 h3;subst h1 h2 h3;exact h
 |succ j=>simp at h1
theorem Q4w {W:World} {l l':List CT} {cs cs':List Value} {vs vs':List V} (h:Q4i W l cs vs) (h':Q4i W l' cs' vs'):Q4i W (l++l') (cs++cs') (vs++vs'):=by
 obtain ⟨a1,a2,a3⟩:=h;obtain ⟨b1,b2,b3⟩:=h'
 refine ⟨by simp [a1,b1],by simp [a2,b2],λj c cv v h1 h2 h3=>?_⟩
 by_cases hj:j<l.length
 ·rw [List.getElem?_append_left hj] at h1
  rw [List.getElem?_append_left (by omega)] at h2 h3
  exact a3 j c cv v h1 h2 h3
 ·rw [List.getElem?_append_right (by omega)] at h1 h2 h3
  rw [a1] at h2;rw [a2] at h3
  exact b3 _ c cv v h1 h2 h3
theorem Q4q {W:World}:∀{l:List CT} {cs:List Value} {vs:List V},Q4i W l cs vs->okCL l vs
 |[],cs,vs,h=>List.length_eq_zero_iff.1 h.2.1
 |
  c::l,cs,vs,h=>by
  obtain ⟨h1,h2,h3⟩:=h
  match cs,vs,h1,h2 with
  |
   cv::cs,v::vs,h1,h2=>
   exact ⟨v,vs,rfl,(h3 0 c cv v rfl rfl rfl).1,Q4q (cs:=cs) ⟨by simpa using h1,by simpa using h2,λj c' cv' v' a b d=>h3 (j+1) c' cv' v' (by simpa using a) (by simpa using b) (by simpa using d)⟩⟩
theorem Q4t:∀{l:List CT} {ss:List SC} {vs:List V},Q4n l=some ss->okCL l vs->okSL ss vs
 |[],ss,vs,h,hv=>by simp [Q4n] at h;subst h;exact hv
 |
  c::l,ss,vs,h,hv=>by
  simp only [Q4n,Option.bind_eq_some_iff,Option.map_eq_some_iff] at h
  obtain ⟨x,hx,y,hy,rfl⟩:=h
  obtain ⟨v,r,rfl,h1,h2⟩:=hv
  refine ⟨v,r,rfl,?_,Q4t hy h2⟩
  cases c with
  |sc c=>simp [scOf] at hx;subst hx;exact h1
  |sl _=>simp [scOf] at hx
theorem Q4v:∀{l:List CT} {ss:List SC},Q4n l=some ss->ss.length=l.length
 |[],ss,h=>by simp [Q4n] at h;subst h;rfl
 |
  c::l,ss,h=>by
  simp only [Q4n,Option.bind_eq_some_iff,Option.map_eq_some_iff] at h
  obtain ⟨x,hx,y,hy,rfl⟩:=h
  simp [Q4v hy]
theorem Q4r {α:Type} {Q:Nat->α->Prop}:∀{n:Nat},(∀i,i<n->∃x,Q i x)->∃l:List α,l.length=n/\∀(i:Nat) (x:α),l[i]? = some x->Q i x
 |0,_=>⟨[],rfl,λi x h=>by simp at h⟩
 |
  n+1,h=>by
  obtain ⟨l,h1,h2⟩:=Q4r (n:=n) λi hi=>h i (by omega)
  obtain ⟨x,hx⟩:=h n (by omega)
  refine ⟨l++[x],by simp [h1],λi y hy=>?_⟩
  by_cases hi:i<l.length
  ·rw [List.getElem?_append_left hi] at hy;exact h2 i y hy
  ·rw [List.getElem?_append_right (by omega)] at hy
   have:i-l.length=0:=by
    rcases Nat.lt_or_ge (i-l.length) 1 with h0|h0
    ·omega
    ·rw [List.getElem?_eq_none (by simp;omega)] at hy;simp at hy
   rw [this] at hy;simp at hy;subst hy
   have:i=n:=by omega
   subst this;exact hx
theorem Q4u {α:Type} (z:Nat) (hz:0<z):∀(l:List (List α)) (j:Nat),(∀e∈l,e.length=z)->l.flatten[j]? = (l[j/z]?).bind (·[j%z]?)
 |[],j,_=>by simp
 |
  e::l,j,h=>by
  have he:=h e (by simp)
  rw [List.flatten_cons]
  by_cases hj:j<z
  ·rw [List.getElem?_append_left (by omega),Nat.div_eq_of_lt hj,Nat.mod_eq_of_lt hj];rfl
  ·rw [List.getElem?_append_right (by omega),Q4u z hz l _ (λx hx=>h x (by simp [hx])),he]
   have h1:j/z=(j-z)/z+1:=by rw [<-Nat.add_div_right (j-z) hz,Nat.sub_add_cancel (by omega)]
   have h2:j%z=(j-z)%z:=by rw [<-Nat.add_mod_right (j-z) z,Nat.sub_add_cancel (by omega)]
   rw [h1,h2];rfl
theorem ones {α:Type} {c:SC} {f:α->V} {Q:α->Prop} (hc:∀v,okS c v->∃n,v=f n/\Q n):∀vss:List (List V),(∀r∈vss,okSL [c] r) ->
  ∃zs:List α,vss.flatten=zs.map f/\zs.length=vss.length/\∀n∈zs,Q n
 |[],_=>⟨[],rfl,rfl,by simp⟩
 |
  r::vss,h=>by
  obtain ⟨zs,e1,e2,e3⟩:=ones hc vss λx hx=>h x (by simp [hx])
  obtain ⟨v,l,rfl,hv,hl⟩:=h r (by simp)
  have hl:l=[]:=hl
  subst hl
  obtain ⟨n,rfl,hq⟩:=hc v hv
  exact ⟨n::zs,by simp [e1],by simp [e2],by simpa using ⟨hq,e3⟩⟩
theorem Q4y {W:World} {t e n m:Nat} {ss:List SC} {l:List CT} {a:Addr} {len cap:Nat} (hs:Q4n l=some ss) (hz:0<ss.length) (hl:len<=cap) (hm:cap<=maxLen)
  (h:∀i,i<len->∃cs vs,W.cells? 0 (a.add (i*ss.length)) ss.length=some cs/\Q4i W l cs vs):∃v,okC (.sl ss) v/\Rep0 noO W (.slice (some a) len cap) v:=by
 obtain ⟨rows,h1,h2⟩:=Q4r h
 have hsl:=Q4v hs
 have hrow:∀(i:Nat) (r:List Value),rows[i]? = some r->∃vs:List V,r.length=ss.length/\okSL ss vs/\vs.length=ss.length/\∀(j:Nat) (cv:Value) (v:V),r[j]? = some cv->vs[j]? = some v->W.cell? (a.add (i*ss.length+j))=some cv/\Rep0 noO W cv v/\cv.oneCell'=true:=by
  intro i r hr
  obtain ⟨vs,hc,hv⟩:=h2 i r hr
  obtain ⟨_,hlen,hcell⟩:=World.cells?_some hc
  refine ⟨vs,hlen,Q4t hs (Q4q hv),hv.2.1.trans hsl.symm,λj cv v hj hjv=>?_⟩
  have hjl:j<l.length:=by have:=(List.getElem?_eq_some_iff.1 hj).1;omega
  have:=hv.2.2 j l[j] cv v (by simp) hj hjv
  refine ⟨?_,this.2⟩
  rw [<-Go.Deep.add_add,hcell j (by omega),hj]
 have hall:∀i,i<rows.length->∃vs:List V,okSL ss vs/\vs.length=ss.length/\∀(j:Nat) (v:V),vs[j]? = some v->∃cv,W.cell? (a.add (i*ss.length+j))=some cv/\Rep0 noO W cv v/\cv.oneCell'=true:=by
  intro i hi
  obtain ⟨vs,q1,q2,q3,q4⟩:=hrow i rows[i] (by simp [hi])
  refine ⟨vs,q2,q3,λj v hv=>?_⟩
  have:j<ss.length:=by have:=(List.getElem?_eq_some_iff.1 hv).1;omega
  exact ⟨_,q4 j (rows[i][j]'(by omega)) v (by simp) hv⟩
 obtain ⟨vss,g1,g2⟩:=Q4r hall
 have hvlen:∀e∈vss,e.length=ss.length:=λe he=>by obtain ⟨i,hi,rfl⟩:=List.getElem_of_mem he;exact (g2 i _ (by simp [hi])).2.1
 have gen:∀v:V,flatV v=some (len,vss.flatten)->isExact v=false->Rep0 noO W (.slice (some a) len cap) v:=by
  intro v hf hx
  have hcell:∀(j:Nat) (v:V),vss.flatten[j]? = some v->∃cv,W.cell? (a.add j)=some cv/\Rep0 noO W cv v/\cv.oneCell'=true:=by
   intro j v hv
   rw [Q4u ss.length hz vss j hvlen] at hv
   obtain ⟨r,hr,hv⟩:=Option.bind_eq_some_iff.1 hv
   obtain ⟨cv,k1,k2⟩:=(g2 _ r hr).2.2 _ v hv
   refine ⟨cv,?_,k2⟩
   rw [show j=j/ss.length*ss.length+j%ss.length by rw [Nat.mul_comm];exact (Nat.div_add_mod j ss.length).symm]
   exact k1
  refine .slice (some a) len cap v vss.flatten (λj=>(W.cell? (a.add j)).getD Go.undef) hf (by simp [hx]) hl (by simp) (λj hj=>?_) (λj hj=>?_) (λj hj=>?_)
  ·obtain ⟨cv,k1,k2,k3⟩:=hcell j _ (List.getElem?_eq_getElem hj)
   exact ⟨a,rfl,λh=>h.elim,by rw [k1];rfl⟩
  ·obtain ⟨cv,k1,k2,k3⟩:=hcell j _ (List.getElem?_eq_getElem hj)
   rw [k1];exact k3
  ·obtain ⟨cv,k1,k2,k3⟩:=hcell j _ (List.getElem?_eq_getElem hj)
   rw [k1];exact k2
 have hlen':vss.length=len:=by omega
 have recs:∃v,(∃l,v=V.recs false ss.length l/\(∀r∈l,okSL ss r)/\l.length<=maxLen)/\Rep0 noO W (.slice (some a) len cap) v:=by
  refine ⟨.recs false ss.length vss,⟨vss,rfl,λr hr=>?_,by omega⟩,gen _ ?_ rfl⟩
  ·obtain ⟨i,hi,rfl⟩:=List.getElem_of_mem hr;exact (g2 i _ (by simp [hi])).1
  ·simp only [flatV];rw [if_pos ⟨hz,hvlen⟩,hlen']
 match ss,hs,hz,recs,g2,gen,hvlen with
 |[],_,hz,_,_,_,_=>simp at hz
 |[.b],_,_,recs,_,_,_=>exact recs
 |x::y::_,_,_,recs,_,_,_=>exact by cases x<;>exact recs
 |
  [.i k],_,_,recs,g2,gen,hvlen=>
  obtain ⟨zs,e1,e2,e3⟩:=ones (c:=.i k) (f:=V.int k) (λv h=>h) vss λr hr=>by
   obtain ⟨i,hi,rfl⟩:=List.getElem_of_mem hr;exact (g2 i _ (by simp [hi])).1
  refine ⟨.ints false k zs,⟨zs,rfl,e3,by omega⟩,gen _ ?_ rfl⟩
  simp only [flatV];rw [e1,e2,hlen']
 |
  [.s],_,_,recs,g2,gen,hvlen=>
  obtain ⟨zs,e1,e2,e3⟩:=ones (c:=.s) (f:=V.str) (λv h=>h) vss λr hr=>by
   obtain ⟨i,hi,rfl⟩:=List.getElem_of_mem hr;exact (g2 i _ (by simp [hi])).1
  refine ⟨.strs false zs,⟨zs,rfl,e3,by omega⟩,gen _ ?_ rfl⟩
  simp only [flatV];rw [e1,e2,hlen']
theorem Q40 {W:World} {ss:List SC} (hz:0<ss.length):∃v,okC (.sl ss) v/\Rep0 noO W (.slice none 0 0) v:=by
 have gen:∀v:V,flatV v=some (0,[])->isExact v=false->Rep0 noO W (.slice none 0 0) v:=λv hf hx=>
  .slice none 0 0 v [] (λ_=>Go.undef) hf (by simp [hx]) (Nat.le_refl _) (λ_=>rfl) (λj hj=>by simp at hj) (λj hj=>by simp at hj) (λj hj=>by simp at hj)
 match ss,hz with
 |[.i k],_=>exact ⟨.ints false k [],⟨[],rfl,by simp,by simp⟩,gen _ rfl rfl⟩
 |[.s],_=>exact ⟨.strs false [],⟨[],rfl,by simp,by simp⟩,gen _ rfl rfl⟩
 |[.b],_=>exact ⟨.recs false 1 [],⟨[],rfl,by simp,by simp⟩,gen _ (by simp [flatV]) rfl⟩
 |a::a'::ss,_=>exact ⟨.recs false (a::a'::ss).length [],by cases a<;>exact ⟨[],rfl,by simp,by simp⟩,gen _ (by simp [flatV]) rfl⟩
section
variable {H:Type} {enc:TypeId×Value->H} {P:Program} {W:World}
theorem Q4p:∀(n:Nat) (t:TypeId) (l:List CT),cts P n t=some l->∀(fuel:Nat) (cs:List Value) (x:DataW H×List MemPlace),DataW.trod enc P W 0 (λ_=>true) true fuel t cs=some x ->
  ∃vs,Q4i W l cs vs
 |0,t,l,h,_,_,_,_=>by simp [cts] at h
 |
  n+1,t,l,h,fuel,cs,x,hx=>by
  unfold cts at h
  split at h
  ·rename_i ht
   simp at h;subst h
   obtain ⟨bb,rfl,_⟩:=DataW.trod_bool ht hx
   exact ⟨[.bool bb],Q4o ⟨⟨bb,rfl⟩,.bool bb,rfl⟩⟩
  ·rename_i k ht
   simp at h;subst h
   obtain ⟨b,rfl,_,hw⟩:=DataW.trod_int ht hx
   exact ⟨[.int k b],Q4o ⟨⟨b,rfl,hw⟩,.int k b,rfl⟩⟩
  ·rename_i ht
   simp at h;subst h
   obtain ⟨b,rfl,_,hw⟩:=DataW.trod_string ht hx
   exact ⟨[.str b.data.toList],Q4o ⟨⟨_,rfl,by simpa using hw⟩,.str _ _ rfl,rfl⟩⟩
  ·rename_i fs ht
   obtain ⟨l',h1,h2⟩:=Option.bind_eq_some_iff.1 h
   split at h2
   case isFalse=>simp at h2
   rename_i hsz
   simp at h2;subst h2
   obtain ⟨xs,m,_,_,hlen,hxl,hf⟩:=DataW.trod_struct ht hx
   have key:∀(gs:List Field) (off:Nat) (l':List CT),ctsF P (cts P n) off gs=some l'->(∀f∈gs,∃y,DataW.trod enc P W 0 (λ_=>true) true m f.type ((cs.drop f.offset).take (P.cellsOf f.type))=some y) ->
     ∃vs,Q4i W l' ((cs.drop off).take l'.length) vs:=by
    intro gs
    induction gs with
    |nil=>intro off l' h _;simp [ctsF] at h;subst h;exact ⟨[],by simpa using cellsR_nil W⟩
    |
     cons f gs ih=>
     intro off l' h hg
     unfold ctsF at h
     split at h
     case isFalse=>simp at h
     rename_i hoff
     obtain ⟨lf,h1,h2⟩:=Option.bind_eq_some_iff.1 h
     split at h2
     case isFalse=>simp at h2
     rename_i hsz
     obtain ⟨l2,h3,rfl⟩:=Option.map_eq_some_iff.1 h2
     obtain ⟨y,hy⟩:=hg f (by simp)
     obtain ⟨vs1,c1⟩:=Q4p n f.type lf h1 m _ y hy
     obtain ⟨vs2,c2⟩:=ih _ _ h3 λf' hf'=>hg f' (by simp [hf'])
     refine ⟨vs1++vs2,?_⟩
     have hc:=Q4w c1 c2
     rw [hoff,hsz] at hc
     have hl1:lf.length<=(cs.drop off).length:=by
      have:=c1.1;rw [hoff,hsz,List.length_take] at this;omega
     rw [List.length_append,List.take_add,List.drop_drop]
     exact hc
   have hall:∀f∈fs.toList,∃y,DataW.trod enc P W 0 (λ_=>true) true m f.type ((cs.drop f.offset).take (P.cellsOf f.type))=some y:=by
    intro f hf'
    obtain ⟨i,hi,rfl⟩:=List.getElem_of_mem hf'
    have hi':i<fs.size:=by simpa using hi
    have:=hf i (fs.toList[i]) (by simp [hi'])
    rw [List.getElem?_eq_getElem (by omega)] at this
    exact ⟨_,this⟩
   obtain ⟨vs,hv⟩:=key fs.toList 0 _ h1 hall
   refine ⟨vs,?_⟩
   rwa [List.drop_zero,List.take_of_length_le (by omega)] at hv
  ·rename_i m e ht
   obtain ⟨l',h1,h2⟩:=Option.bind_eq_some_iff.1 h
   split at h2
   case isFalse=>simp at h2
   rename_i hsz
   simp at h2;subst h2
   obtain ⟨xs,q,_,_,hlen,hxl,hf⟩:=DataW.trod_array ht hx
   have key:∀(k:Nat),k<=m->∃vs,Q4i W (ctsA l' k) ((cs.drop ((m-k)*l'.length)).take (k*l'.length)) vs:=by
    intro k
    induction k with
    |zero=>intro _;exact ⟨[],by simpa [ctsA] using cellsR_nil W⟩
    |
     succ k ih=>
     intro hk
     obtain ⟨vs2,c2⟩:=ih (by omega)
     have h3:=hf (m-(k+1)) (by omega)
     rw [List.getElem?_eq_getElem (by omega)] at h3
     obtain ⟨vs1,c1⟩:=Q4p n e l' h1 q _ _ h3
     refine ⟨vs1++vs2,?_⟩
     have hc:=Q4w c1 c2
     rw [hsz.1] at hc
     have e1:(m-k)*l'.length=(m-(k+1))*l'.length+l'.length:=by
      rw [<-Nat.succ_mul];congr 1;omega
     have e2:(k+1)*l'.length=l'.length+k*l'.length:=by rw [Nat.succ_mul,Nat.add_comm]
     rw [e1,<-List.drop_drop] at hc
     rw [e2,List.take_add]
     exact hc
   obtain ⟨vs,hv⟩:=key m (Nat.le_refl _)
   refine ⟨vs,?_⟩
   rwa [Nat.sub_self,Nat.zero_mul,List.drop_zero,List.take_of_length_le (by omega)] at hv
  ·rename_i e ht
   obtain ⟨l',h1,h2⟩:=Option.bind_eq_some_iff.1 h
   obtain ⟨ss,h3,h4⟩:=Option.bind_eq_some_iff.1 h2
   split at h4
   case isFalse=>simp at h4
   rename_i hsz
   simp at h4;subst h4
   rcases Go.Deep.open_slice ht hx with ⟨rfl,_⟩|⟨a,len,cap,m,q,D,Pl,rfl,_,hl,hm,hmm,_,hi⟩
   ·obtain ⟨v,k1,k2⟩:=Q40 (W:=W) hsz.2
    exact ⟨[v],Q4o ⟨k1,k2,rfl⟩⟩
   ·simp only [if_true] at hmm
    subst hmm
    rw [hsz.1] at hi
    obtain ⟨v,k1,k2⟩:=Q4y (t:=0) (e:=0) (n:=0) (m:=0) h3 hsz.2 hl hm λi hi'=>by
     obtain ⟨cs',c1,c2⟩:=hi i (by omega)
     obtain ⟨vs,c3⟩:=Q4p n e l' h1 q _ _ c2
     exact ⟨cs',vs,c1,c3⟩
    exact ⟨[v],Q4o ⟨k1,k2,rfl⟩⟩
  ·simp at h
inductive AT where
 |one (c:CT)
 |agg (l:List CT)
def okA:AT->V->Prop
 |.one c,v=>okC c v
 |.agg l,v=>∃vs,v=.agg vs/\okCL l vs
def okAL:List AT->List V->Prop
 |[],vs=>vs=[]
 |c::cs,vs=>∃v l,vs=v::l/\okA c v/\okAL cs l
def atOf (P:Program) (n:Nat) (t:TypeId):Option AT:=
 (cts P n t).bind λl=>match P.underlying t with
  |some (.struct _)|some (.array _ _)=>some (.agg l)
  |
   _=>match l with
   |[c]=>some (.one c)
   |_=>none
def Q4f (P:Program) (n:Nat):List TypeId->Option (List AT)
 |[]=>some []
 |t::ts=>(atOf P n t).bind λx=>(Q4f P n ts).map (x :: ·)
theorem Q42 {n:Nat} {t:TypeId} {q:AT} (hq:atOf P n t=some q) {base:Nat} {v:Value} {d:DataW H} {ps:List MemPlace} (hval:Value.okWide P W .any base t v) (h:DataW.Trod enc P W 0 (λ_=>true) true t v d ps) :
  ∃x,okA q x/\Rep0 noO W v x:=by
 obtain ⟨l,h1,h2⟩:=Option.bind_eq_some_iff.1 hq
 obtain ⟨fuel,hf⟩:=h
 obtain ⟨vs,hv⟩:=Q4p n t l h1 fuel _ _ hf
 have aggCase:(∃cs,v=.agg cs)->∃x,okA (.agg l) x/\Rep0 noO W v x:=by
  rintro ⟨cs,rfl⟩
  have hc:(Value.agg cs).cells.toList=cs.toList:=rfl
  rw [hc] at hv
  refine ⟨.agg vs,⟨vs,rfl,Q4q hv⟩,.agg cs vs (by have:=hv.1;have:=hv.2.1;simp at *;omega) (λj hj=>?_) (λj hj=>?_)⟩ <;>
  ·have hj1:j<cs.size:=by have:=hv.1;have:=hv.2.1;simp at *;omega
   have:=hv.2.2 j (l[j]'(by have:=hv.2.1;omega)) cs[j] vs[j] (by simp) (by simp [hj1]) (by simp)
   have e:cs.getD j Go.undef=cs[j]:=by simp [Array.getD,hj1]
   rw [e]
   first|exact this.2.2|exact this.2.1
 split at h2
 ·rename_i fs ht
  simp at h2;subst h2
  obtain ⟨cs,rfl,_⟩:=okWide_struct ht hval
  exact aggCase ⟨cs,rfl⟩
 ·rename_i m e ht
  simp at h2;subst h2
  unfold Value.okWide at hval
  rw [ht] at hval
  obtain ⟨cs,rfl,_⟩:=hval
  exact aggCase ⟨cs,rfl⟩
 ·rename_i hns hna
  split at h2
  case h_2=>simp at h2
  rename_i c
  simp at h2;subst h2
  obtain ⟨a1,a2,a3⟩:=hv
  match vs,a2 with
  |
   [x],_=>
   have hcells:v.cells = #[v]:=by
    cases v with
    |
     agg cs=>
     exfalso
     unfold Value.okWide at hval
     cases n with
     |zero=>simp [cts] at h1
     |
      succ n=>
      unfold cts at h1
      split at h1<;>rename_i ht
      ·rw [ht] at hval;simp [Cell.okWide,Cell.ok,ht] at hval
      ·rw [ht] at hval;simp [Cell.okWide,Cell.ok,ht] at hval
      ·rw [ht] at hval;simp [Cell.okWide,Cell.ok,ht] at hval
      ·exact hns _ ht
      ·exact hna _ _ ht
      ·rw [ht] at hval;simp [Cell.okWide,Cell.ok,ht] at hval
      ·simp at h1
    |_=>rfl
   rw [hcells] at a3
   have:=a3 0 c v x rfl rfl rfl
   exact ⟨x,this.1,this.2.1⟩
theorem Q4x {n:Nat}:∀{ts:List TypeId} {qs:List AT} {args:List Value} {ds:List (DataW H)} {ps:List MemPlace} {base:Nat},Q4f P n ts=some qs->DataW.TrodAll enc P W 0 (λ_=>true) true ts args ds ps ->
  (∀(j:Nat) t v,ts[j]? = some t->args[j]? = some v->Value.okWide P W .any base t v) ->
  ∃vs,args.length=vs.length/\okAL qs vs/\∀j (h:j<vs.length),Rep0 noO W (args.getD j Go.undef) vs[j]
 |
  [],qs,args,ds,ps,base,hq,h,_=>by
  simp [Q4f] at hq;subst hq
  obtain ⟨rfl,rfl,rfl⟩:=trodAll_nil h
  exact ⟨[],rfl,rfl,λj h=>by simp at h⟩
 |
  t::ts,qs,args,ds,ps,base,hq,h,hval=>by
  simp only [Q4f,Option.bind_eq_some_iff,Option.map_eq_some_iff] at hq
  obtain ⟨q,hq1,qs',hq2,rfl⟩:=hq
  obtain ⟨v,vs,d,ds',p,p',rfl,rfl,rfl,h1,h2⟩:=trodAll_cons h
  obtain ⟨x,k1,k2⟩:=Q42 hq1 (hval 0 t v rfl rfl) h1
  obtain ⟨xs,l1,l2,l3⟩:=Q4x hq2 h2 λj t v a b=>hval (j+1) t v (by simpa using a) (by simpa using b)
  refine ⟨x::xs,by simp [l1],⟨x,xs,rfl,k1,l2⟩,λj hj=>?_⟩
  cases j with
  |zero=>exact k2
  |succ j=>simpa using l3 j (by simpa using hj)
theorem Q41 {ts:List TypeId} (hl:laidOutB P=true) (hr:ts.all (λt=>P.readableRec t&&decide (t<P.types.size))=true) {W':World} (hb:Below W.heap.size W W') {sp:Nat->Bool} :
  ∀
   {vs:List Value} {ds:List (DataW H)} {ps:List MemPlace},DataW.TrodAll enc P W 0 (λ_=>true) true ts vs ds ps->(∀x∈ps,x.block<W.heap.size)->(∀x∈ps,sp x.block=true) ->
   DataW.TrodAll enc P W' 0 sp true ts vs ds ps:=by
 induction ts with
 |
  nil=>
  intro vs ds ps h _ _
  obtain ⟨rfl,rfl,rfl⟩:=trodAll_nil h
  exact trodAll_mk0
 |
  cons t ts ih=>
  intro vs ds ps h hlt hsp
  obtain ⟨v,vs',d,ds',p,p',rfl,rfl,rfl,h1,h2⟩:=trodAll_cons h
  simp only [List.all_cons,Bool.and_eq_true,decide_eq_true_eq] at hr
  exact trodAll_cons_mk (WideElems.Trod_stays hl hr.1.1 hr.1.2 h1 (λx hx=>hb.same (hlt x (by simp [hx]))) (λx hx=>hsp x (by simp [hx])))
   (ih hr.2 h2 (λx hx=>hlt x (by simp [hx])) (λx hx=>hsp x (by simp [hx])))
theorem Q4z {f:Func} {s:ChangeSpec} {apart fresh handsOn again:Bool} {W W':World} {args:Array Value} {v:Value} {ds gs:List (DataW H)} {before pa pv:List MemPlace}
  (hW:DataW.Whole enc P f.params.toList s.vars apart W args.toList ds gs before)
  (hres:∀(b:Nat) (sp:Nat->Bool) (hd:Bool),DataW.TrodAll enc P W' b sp hd f.resultTypes.toList (v.resultList f.resultTypes.size) (s.fn H (ds++gs)).results [])
  (hargs:∀sp:Nat->Bool,(∀p∈before,sp p.block=true)->DataW.TrodAll enc P W' 0 sp true f.params.toList args.toList (s.fn H (ds++gs)).args pa)
  (hvars:∀sp:Nat->Bool,(∀p∈before,sp p.block=true)->DataW.TrodVars enc P W' sp s.vars (s.fn H (ds++gs)).vars pv)
  (hps:before=pa++pv) (hb:Below W.heap.size W W')
  (hok:∀(j:Nat) (t:TypeId) (r:Value),f.resultTypes[j]? = some t->(v.resultList f.resultTypes.size)[j]? = some r->Value.okWide P W' .any 0 t r) :
  s.post enc P f apart fresh handsOn again W args v W':=by
 have hlt:∀p∈before,p.block<W.heap.size:=λp hp=>hW.lt p hp
 have hold:∀p∈before,(λb=>decide (b<W.heap.size)) p.block=true:=λp hp=>by simpa using hlt p hp
 refine ⟨ds,gs,before,[],pa,pv,hW,hres _ _ _,hargs _ hold,hvars _ hold,World.keptBut_mono (λp hp=>⟨hp,?_⟩) (hb.frame (·∈before)),λ_=>?_⟩
 ·rw [hps,List.mem_append] at hp
  exact Or.inr hp
 ·obtain ⟨_,_,_,_,_,hz,hn⟩:=hW
  refine ⟨hok,_,_,([]++pa)++pv,⟨[]++pa,pv,trodAll_append (hargs _ (λ_ _=>rfl)) (hres _ _ _),hvars _ (λ_ _=>rfl),rfl,?_,?_⟩,?_⟩
  ·intro b off hp
   have hin:MemPlace.cell b off∈before:=by rw [hps];simpa using hp
   rw [hb.frozen (hlt _ hin)]
   exact hz b off hin
  ·intro ha
   have:=hn ha
   rw [hps] at this
   simpa using this
  ·intro p hp _
   rw [hps]
   simpa using hp
theorem Q4h {g:Nat} {f:Func} {c:Code} (hf:FunOK P g f c) {s:ChangeSpec} {n:Nat} {qs:List AT} {tb:TypeId} (hl:laidOutB P=true) (hr:f.params.toList.all (λt=>P.readableRec t&&decide (t<P.types.size))=true)
  (hq:Q4f P n f.params.toList=some qs) (hres:f.resultTypes = #[tb]) (htb:P.underlying tb=some .bool) (hv:s.vars=[])
  (hs:∀ds:List (DataW H),ds.length=f.params.toList.length->s.fn H ds={results:=[.lit (.bool true)],args:=ds})
  (plain:∀vs,okAL qs vs->∃p r,SoundC P g vs p/\p.m=some r/\p.enc r=.bool true)
  (W:World) (base:Nat) (args:Array Value) (ds gs:List (DataW H)) (before:List MemPlace)
  (hval:∀(j:Nat) t v,f.params[j]? = some t->args[j]? = some v->Value.okWide P W .any base t v)
  (hW:DataW.Whole enc P f.params.toList s.vars false W args.toList ds gs before) :
  Calls P g args W λe W'=>∃v,e=.returned v/\s.post enc P f false true false false W args v W':=by
 have hW':=hW
 have hlt:∀p∈before,p.block<W.heap.size:=λp hp=>hW.lt p hp
 obtain ⟨p,q,hA,hV,rfl,hfz,hnd⟩:=hW
 have hA:DataW.TrodAll enc P W 0 (λ_=>true) true f.params.toList args.toList ds p:=hA
 rw [hv] at hV
 obtain ⟨rfl,rfl⟩:=trodVars_none hV
 obtain ⟨vs,h1,h2,h3⟩:=Q4x hq hA λj t v a b=>hval j t v (by simpa using a) (by simpa using b)
 obtain ⟨pk,r,hsound,hm,he⟩:=plain vs h2
 have hcall:=hsound noO W args r hm (by simpa using h1) (λj hj=>by
  have h4:=h3 j hj
  have:args.getD j Go.undef=args.toList.getD j Go.undef:=by
   have hj':j<args.size:=by rw [<-Array.length_toList,h1];exact hj
   simp [Array.getD,List.getD,hj']
  rwa [this]) (λb h=>h.elim)
 unfold CallR at hcall
 rw [hf.enters] at hcall
 have hlen:∀{ts:List TypeId} {vs:List Value} {ds:List (DataW H)} {ps:List MemPlace},DataW.TrodAll enc P W 0 (λ_=>true) true ts vs ds ps->ds.length=ts.length:=by
  intro ts
  induction ts with
  |nil=>intro vs ds ps h;obtain ⟨_,rfl,_⟩:=trodAll_nil h;rfl
  |cons t ts ih=>intro vs ds ps h;obtain ⟨_,_,_,_,_,_,_,rfl,_,_,h2⟩:=trodAll_cons h;simp [ih h2]
 refine hcall.mono λe W' h=>?_
 cases e with
 |
  returned cv=>
  obtain ⟨hg,hrep⟩:=h
  rw [he] at hrep
  obtain rfl:cv=.bool true:=by
   cases hrep
   ·rfl
   ·rename_i hf _;cases hf
  have hb:Below W.heap.size W W':=⟨hg.os,hg.tape,hg.output,hg.size,λk hk=>hg.block k hk (by simp)⟩
  have hfn:=hs ds (hlen hA)
  refine ⟨_,rfl,Q4z (pa:=p) (pv:=[]) hW' ?_ ?_ ?_ rfl hb ?_⟩
  ·intro b sp hd
   rw [List.append_nil,hfn,hres]
   exact trodAll_cons_mk (shut_bool htb _) trodAll_mk0
  ·intro sp hsp
   rw [List.append_nil,hfn]
   exact Q41 hl hr hb hA (λx hx=>hlt x (by simp [hx])) (λx hx=>hsp x (by simp [hx]))
  ·intro sp hsp
   rw [List.append_nil,hfn,hv]
   rfl
  ·exact ok_one hres rfl (okWide_bool_mk htb _)
 |_=>exact h.elim
end
end
end Go.Proofs.YtgjncgiekniniaaGreatDoor.A
end
section
namespace Go.Proofs.YtgjncgiekniniaaGreatDoor.A
open Go
theorem own:ownKnob Tryz.prog.godebug=none:=by kernel_rfl
theorem laidOut:laidOutB Tryz.prog=true:=by kernel_rfl
theorem rowed:mapsRowed Tryz.prog=true:=by kernel_rfl
theorem Q4j:(Tryz.prog.stops == [])=true:=by kernel_rfl
theorem Q4l:(Tryz.prog.stopKnobs == [])=true:=by kernel_rfl
theorem Q4g:Tryz.prog.stopsHeard=true:=by kernel_rfl
theorem Q4k:Tryz.prog.mayEnter=true:=by kernel_rfl
theorem Q4m:false=Tryz.prog.looks []:=by kernel_rfl
theorem main:Tryz.pinned.checked.prog.mainIs=some (true,("d4ffbc68b08c28ac251f33799dbb1d7e972ab3df77886f5ed4ce34a153cf9881":String).toList):=by kernel_rfl
noncomputable def relay (l:List Int):Obj->Obj
 |.cells _ t fz=>.cells (l.map λn=>Value.int .u8 n).toArray t fz
 |o=>o
noncomputable def accept:List Int:=[128,191,160,191,128,159,144,191,128,143,0,0,0,0,0,0,0,0,0,0,0,0,0,0,0,0,0,0,0,0,0,0]
noncomputable def Q4e (os:Os):World:=
 let w:=World.holding Tryz.prog os ⟨#[],#[],[]⟩
 {w with heap:=(w.heap.modify 3 (relay (Go.Pinned.utf8FirstZ.map Int.ofNat))).modify 4 (relay accept)}
theorem Qc4 {n:Int} (h:(Lit.int .u32 n).wf=true):0<=n/\n<4294967296:=by
 simp [Lit.wf,IntKind.min,IntKind.max,IntKind.signed,IntKind.bits] at h;omega
theorem Qb9 {n:Int} (h:(Lit.int .u16 n).wf=true):0<=n/\n<65536:=by
 simp [Lit.wf,IntKind.min,IntKind.max,IntKind.signed,IntKind.bits] at h;omega
theorem Qs {n:Int} (h:(Lit.int .u8 n).wf=true):0<=n/\n<256:=by
 simp [Lit.wf,IntKind.min,IntKind.max,IntKind.signed,IntKind.bits] at h;omega
theorem Qkb {B:Nat} {l l':List Int}:inB B (l++l')↔inB B l/\inB B l':=by
 simp only [inB,List.mem_append]
 exact ⟨λh=>⟨λx hx=>h x (.inl hx),λx hx=>h x (.inr hx)⟩,λh x hx=>hx.elim (h.1 x) (h.2 x)⟩
theorem Qwb {B:Nat} (hB:2<=B) (i:Nat):∀n,(toB B n).getD i 0=((n/B^i%B:Nat):Int):=by
 induction i with
 |
  zero=>
  intro n
  rcases Nat.eq_zero_or_pos n with rfl|hn
  ·simp [toB_zero]
  ·rw [Wg hB hn];simp
 |
  succ i ih=>
  intro n
  rcases Nat.eq_zero_or_pos n with rfl|hn
  ·simp [toB_zero]
  ·rw [Wg hB hn,List.getD_cons_succ,ih,Nat.div_div_eq_div_mul,Nat.pow_succ,Nat.mul_comm B]
abbrev dg (n:Nat):List Int:=toB 10000 n
theorem b4:2<=10000:=by decide
theorem Qcf {l:List Int} (hl:inB 10000 l) (hs:Qaw l):z14.F l=some (dg (valB 10000 l).toNat):=Qmj b4 hl hs
theorem Qgb {l:List Int} {i:Nat}:z13.F l (i:Int)=some (l.getD i 0):=by
 unfold z13.F
 by_cases h:(i:Int)>=(l.length:Int)
 ·rw [bif_t h]
  have:l.getD i 0=0:=by simp [List.getD,List.getElem?_eq_none (show l.length<=i by omega)]
  rw [this]
 ·rw [Qa h,if_pos (by omega),Zi]
theorem Qfk {n:Nat} (hn:n<9223372036854775808):z8.F (n:Int)=some (dg n):=by
 have key:∀(n:Nat),n<9223372036854775808->∀s:List Int,Qaw s->(s.length+(dg n).length<=1000000000)->Runs (λrec x=>z8.l0P rec some x) ((n:Int),s) ((0:Int),s++dg n):=by
  intro n
  induction n using Nat.strongRecOn with
  |
   _ n ih=>
   intro hn s hs hl
   rcases Nat.eq_zero_or_pos n with rfl|h0
   ·refine .done λrec=>?_
    simp [z8.l0P,toB_zero]
   ·have e:dg n=((n%10000:Nat):Int)::dg (n/10000):=Wg b4 h0
    have hd:n/10000<n:=Nat.div_lt_self h0 (by decide)
    rw [e] at hl ⊢
    have h2:=ih (n/10000) hd (by omega) (s++[((n%10000:Nat):Int)]) (by simp at *;omega) (by simp at *;omega)
    rw [List.append_assoc,List.singleton_append] at h2
    refine .step (λrec=>?_) h2
    unfold z8.l0P
    simp only
    have e1:Int.tmod (n:Int) 10000=((n%10000:Nat):Int):=by rw [Yk (by omega)];rfl
    have e2:wr .i64 (Int.tdiv (n:Int) 10000)=((n/10000:Nat):Int):=by rw [Yd (by omega),Qc (by omega) (by omega)];rfl
    rw [bif_t (by omega),if_pos (by simp at *;omega),e1,e2]
 unfold z8.F z8.l0
 have hl:(dg n).length<=5:=Yj b4 (by omega)
 rw [(key n hn [] (by simp) (by simp;omega)).lfp]
 simp
def dig4 (d:Int):List Int:=[d%10,d/10%10,d/100%10,d/1000%10]
theorem Qxi {d:Int} (h0:0<=d):inB 10 (dig4 d):=by
 intro x hx;simp [dig4] at hx;rcases hx with rfl|rfl|rfl|rfl<;>omega
theorem Qu3 {d:Int} (h0:0<=d) (h:d<10000):valB 10 (dig4 d)=d:=by simp [dig4,valB];omega
theorem Qsx:∀{l:List Int},inB 10000 l->inB 10 (l.flatMap dig4)
 |[],_=>inB_nil 10
 |x::l,h=>by rw [Wt] at h;rw [List.flatMap_cons,Qkb];exact ⟨Qxi h.1.1,Qsx h.2⟩
theorem Qrt:∀{l:List Int},inB 10000 l->valB 10 (l.flatMap dig4)=valB 10000 l
 |[],_=>rfl
 |
  x::l,h=>by
  rw [Wt] at h
  rw [List.flatMap_cons,Qdy,Qu3 h.1.1 h.1.2,Qrt h.2]
  simp [dig4,valB]
theorem Qie:∀(l:List Int),(l.flatMap dig4).length=4*l.length
 |[]=>rfl
 |x::l=>by rw [List.flatMap_cons,List.length_append,Qie l];simp [dig4];omega
theorem Q1a (s:List UInt8) (hs:Qaw s) (d:Int) (h0:0<=d) (hd:d<10000):∃d',z5.l2 (s,d,(0:Int))=some (((dig4 d).reverse.map ch)++s,d',4):=by
 have hs':s.length<=1000000000:=hs
 have one:∀(s:List UInt8) (d:Int) (k:Nat),s.length<=1000000004->0<=d->d<10000->k<4->∀rec,z5.l2P rec some (s,d,(k:Int))=rec (ch (d%10)::s,d/10,((k+1:Nat):Int)):=by
  intro s d k hs h0 hd hk rec
  unfold z5.l2P
  simp only
  rw [bif_t (by omega),if_pos (by simp;omega),Yk h0,Yd h0,Qc (n:=48+d%10) (by omega) (by omega),Qgd (by omega) (by omega),Qc (n:=d/10) (by omega) (by omega),Qc (by omega) (by omega)]
  have:(48+d%10).toNat=48+(d%10).toNat:=by omega
  simp [ch,this]
 refine ⟨d/10/10/10/10,?_⟩
 unfold z5.l2
 refine Runs.lfp (.step (one s d 0 (by omega) h0 hd (by decide)) (.step (one _ (d/10) 1 (by simp;omega) (by omega) (by omega) (by decide)) (.step (one _ (d/10/10) 2 (by simp;omega) (by omega) (by omega) (by decide)) (.step (one _ (d/10/10/10) 3 (by simp;omega) (by omega) (by omega) (by decide)) (.done λrec=>?_)))))
 unfold z5.l2P
 simp only
 rw [Qa (by omega)]
 have e1:d/10/10=d/100:=by omega
 have e2:d/10/10/10=d/1000:=by omega
 simp [dig4,e1,show d/100/10=d/1000 by omega]
theorem Q3h {l:List Int} (hl:inB 10000 l) (hs:4*l.length<=1000000000):z5.l0 l ([],(0:Int))=some ((l.flatMap dig4).reverse.map ch,(l.length:Int)):=by
 have key:∀(k:Nat),k<=l.length->Runs (λrec x=>z5.l0P l rec some x) (((l.take (l.length-k)).flatMap dig4).reverse.map ch,((l.length-k:Nat):Int)) ((l.flatMap dig4).reverse.map ch,(l.length:Int)):=by
  intro k
  induction k with
  |
   zero=>
   intro _
   refine .done λrec=>?_
   unfold z5.l0P
   simp
  |
   succ k ih=>
   intro hk
   have hi:l.length-(k+1)<l.length:=by omega
   have hm:=hl l[l.length-(k+1)] (List.getElem_mem hi)
   obtain ⟨d',h2⟩:=Q1a (((l.take (l.length-(k+1))).flatMap dig4).reverse.map ch) (by
    show List.length _<=_;rw [List.length_map,List.length_reverse,Qie,List.length_take];omega) _ hm.1 hm.2
   refine .step (λrec=>?_) (ih (by omega))
   unfold z5.l0P
   simp only
   rw [bif_t (by omega),if_pos (by omega),Zi,Wa hi,h2]
   simp only [Zb]
   rw [Qc (by omega) (by omega)]
   have e:l.take (l.length-k)=l.take (l.length-(k+1))++[l[l.length-(k+1)]]:=by
    rw [<-List.take_succ_eq_append_getElem hi];congr 1;omega
   have e2:((l.length-(k+1):Nat):Int)+1=((l.length-k:Nat):Int):=by omega
   rw [e,e2,List.flatMap_append]
   simp only [List.flatMap_cons,List.flatMap_nil,List.append_nil,List.reverse_append,List.map_append]
 have:=key l.length (Nat.le_refl _)
 simp only [Nat.sub_self,List.take_zero,List.flatMap_nil,List.reverse_nil,List.map_nil] at this
 exact this.lfp
theorem Qq1 {d:Int} (h0:0<=d) (h:d<10):((ch d).toNat:Int)=48↔d=0:=by rw [Qhh h0 h];omega
theorem Qle {n:Nat} (hs:4*(dg n).length<=1000000000):z5.F (dg n)=some (txt n):=by
 unfold z5.F txt
 by_cases hn:n=0
 ·subst hn;simp [dg,toB_zero]
 ·have hne:dg n≠[]:=λe=>hn ((toB_nil b4).1 e)
  have hlen:=List.length_pos_iff.2 hne
  rw [Qa (by omega),if_neg hn,Q3h (Qx b4 n) hs]
  simp only [Zb]
  generalize hfl:(dg n).flatMap dig4=fl
  have hin:inB 10 fl:=by rw [<-hfl];exact Qsx (Qx b4 n)
  have hv:valB 10 fl=n:=by rw [<-hfl,Qrt (Qx b4 n),Q8 b4]
  have hl:fl.length<=1000000000:=by rw [<-hfl,Qie];exact hs
  have key:∀k:Nat,k<=fl.length->valB 10 (fl.take k)=n->∃m:Nat,m<=k/\Runs (λrec x=>z5.l4P (fl.reverse.map ch) rec some x) ((fl.length-k:Nat):Int) ((fl.length-m:Nat):Int)/\valB 10 (fl.take m)=n/\(m=0\/fl.getD (m-1) 0≠0):=by
   intro k
   induction k with
   |zero=>intro _ h;simp [valB] at h;omega
   |
    succ k ih=>
    intro hk h
    have hi:fl.length-(k+1)<(fl.reverse.map ch).length:=by simp;omega
    have hk':k<fl.length:=by omega
    have hm:=hin fl[k] (List.getElem_mem hk')
    have eg:(fl.reverse.map ch).getD (fl.length-(k+1)) 0=ch fl[k]:=by
     have e0:fl.length-1-(fl.length-(k+1))=k:=by omega
     simp only [List.getD,List.getElem?_eq_getElem hi,Option.getD_some,List.getElem_map,List.getElem_reverse,e0]
    by_cases hz:fl[k]=0
    ·obtain ⟨m,h1,h2,h3,h4⟩:=ih (by omega) (by rw [Yp hk',hz] at h;simpa using h)
     refine ⟨m,by omega,.step (λrec=>?_) h2,h3,h4⟩
     unfold z5.l4P
     rw [if_pos (by simp;omega),Zi,eg,bif_t ((Qq1 hm.1 hm.2).2 hz),Qc (by omega) (by omega)]
     congr 1;omega
    ·refine ⟨k+1,Nat.le_refl _,.done λrec=>?_,h,.inr (by rw [Nat.add_sub_cancel,Wa hk'];exact hz)⟩
     unfold z5.l4P
     rw [if_pos (by simp;omega),Zi,eg,Qa (λe=>hz ((Qq1 hm.1 hm.2).1 e))]
  obtain ⟨m,h1,h2,h3,h4⟩:=key fl.length (Nat.le_refl _) (by rw [List.take_length];exact hv)
  rw [Nat.sub_self] at h2
  unfold z5.l4
  rw [show (0:Int)=((0:Nat):Int) from rfl,h2.lfp]
  simp only [Zb]
  rw [if_pos (by rw [List.length_map,List.length_reverse];omega),Zi]
  have hm:m≠0:=by rintro rfl;simp [valB] at h3;omega
  have e:fl.take m=toB 10 n:=by
   have:=Qhq b10 (l:=fl.take m) (λx hx=>hin x (List.mem_of_mem_take hx)) λhne=>by
    rcases h4 with h4|h4
    ·exact absurd h4 hm
    ·rw [List.getLast_eq_getElem]
     rw [Wa (by omega)] at h4
     simp only [List.length_take,List.getElem_take]
     have:min m fl.length-1=m-1:=by omega
     simp only [this];exact h4
   rwa [h3,Zi] at this
  rw [<-e,<-List.map_drop,List.reverse_take]
theorem Q3y {a b s:List Int} {i k:Nat} {c:Int} (ha:inB 10000 a) (hb:inB 10000 b) (hs:inB 10000 s) (hi:i<a.length) (hk:i+k<s.length) (hsl:s.length<=4000000000) (hc:0<=c/\c<10000) (hgo:k<b.length\/0<c)
  (rec:Int×Int×List Int->Option (Int×Int×List Int)) :
  z15.l2aaP a b (i:Int) rec some (c,(k:Int),s) =
   rec ((s.getD (i+k) 0+a.getD i 0*b.getD k 0+c)/10000,((k+1:Nat):Int),s.set (i+k) ((s.getD (i+k) 0+a.getD i 0*b.getD k 0+c)%10000)):=by
 have h1:=Q2 (by decide) ha i
 have h2:=Q2 (by decide) hb k
 have h3:=Q2 (by decide) hs (i+k)
 have h4:0<=a.getD i 0*b.getD k 0:=Int.mul_nonneg h1.1 h2.1
 have h5:a.getD i 0*b.getD k 0<=9999*9999:=Int.mul_le_mul (by omega) (by omega) h2.1 (by decide)
 have e1:wr .i64 ((i:Int)+k)=((i+k:Nat):Int):=by rw [Qc (by omega) (by omega)];omega
 have e2:wr .i64 (a.getD i 0*b.getD k 0)=a.getD i 0*b.getD k 0:=Qc (by omega) (by omega)
 have e3:wr .i64 (s.getD (i+k) 0+a.getD i 0*b.getD k 0)=s.getD (i+k) 0+a.getD i 0*b.getD k 0:=Qc (by omega) (by omega)
 have e4:wr .i64 (s.getD (i+k) 0+a.getD i 0*b.getD k 0+c)=s.getD (i+k) 0+a.getD i 0*b.getD k 0+c:=Qc (by omega) (by omega)
 have e5:wr .i64 ((k:Int)+1)=((k+1:Nat):Int):=by rw [Qc (by omega) (by omega)];omega
 unfold z15.l2aaP
 simp only [Qgb,Zb,e1,Zi,e2,e3,e4,e5]
 rw [Yd (by omega),Yk (by omega),Qc (n:=(_:Int)/10000) (by omega) (by omega)]
 have c1:(0:Int)<=((i+k:Nat):Int)/\((i+k:Nat):Int)<(s.length:Int):=by omega
 have c2:(0:Int)<=(i:Int)/\(i:Int)<(a.length:Int):=by omega
 simp only [if_pos c1,if_pos hk,if_pos c2]
 by_cases hkb:(k:Int)<(b.length:Int)
 ·rw [bif_t hkb]
 ·rw [Qa hkb,bif_t (show c>0 by omega)]
theorem Qqu {a b:List Int} {i:Nat} {T:Int} (ha:inB 10000 a) (hb:inB 10000 b) (hi:i<a.length) (hT:T<(10000^(i+1+b.length):Nat)) :
  ∀
   (f k:Nat) (c:Int) (s:List Int),inB 10000 s->i+1+b.length<s.length->s.length<=4000000000->0<=c/\c<10000->b.length+2<=k+f ->
   valB 10000 s+(c+a.getD i 0*valB 10000 (b.drop k))*(10000^(i+k):Nat)=T ->
   ∃k' s',Runs (λrec x=>z15.l2aaP a b (i:Int) rec some x) (c,(k:Int),s) ((0:Int),k',s')/\inB 10000 s'/\s'.length=s.length/\valB 10000 s'=T
 |
  f,k,c,s,hs,hl,hl',hc,hf,hv=>by
  have hbd:=Wm (Jb hb k)
  have h1:=Q2 (B:=10000) (by decide) ha i
  have hsv:=Wm hs
  have hab:=Int.mul_nonneg h1.1 hbd
  by_cases hgo:k<b.length\/0<c
  ·have hk:k<=b.length:=by
    rcases hgo with h|h
    ·omega
    ·rcases Nat.lt_or_ge b.length k with hlt|hge
     ·exfalso
      have h2:(10000^(i+1+b.length):Nat)<=10000^(i+k):=Nat.pow_le_pow_right (by decide) (by omega)
      have h3:(1:Int)*(10000^(i+k):Nat)<=(c+a.getD i 0*valB 10000 (b.drop k))*(10000^(i+k):Nat):=Int.mul_le_mul_of_nonneg_right (by omega) (Int.natCast_nonneg _)
      have h4:((10000^(i+1+b.length):Nat):Int)<=(10000^(i+k):Nat):=by exact_mod_cast h2
      omega
     ·exact hge
   match f,hf with
   |0,hf=>omega
   |
    f+1,hf=>
    have h2:=Q2 (B:=10000) (by decide) hb k
    have h3:=Q2 (B:=10000) (by decide) hs (i+k)
    have h4:0<=a.getD i 0*b.getD k 0:=Int.mul_nonneg h1.1 h2.1
    have h5:a.getD i 0*b.getD k 0<=9999*9999:=Int.mul_le_mul (by omega) (by omega) h2.1 (by decide)
    obtain ⟨k',s',r1,r2,r3,r4⟩:=Qqu ha hb hi hT f (k+1) ((s.getD (i+k) 0+a.getD i 0*b.getD k 0+c)/10000) (s.set (i+k) ((s.getD (i+k) 0+a.getD i 0*b.getD k 0+c)%10000))
     (Yc hs (by omega)) (by rw [List.length_set];exact hl) (by rw [List.length_set];exact hl') (by omega) (by omega) (by
      rw [Yl (by omega),<-hv,Wb b k]
      generalize hx:s.getD (i+k) 0+a.getD i 0*b.getD k 0+c=x
      have e1:(10000^(i+(k+1)):Nat)=10000*10000^(i+k):=by rw [<-Nat.add_assoc,Nat.pow_succ,Nat.mul_comm]
      rw [e1,Int.natCast_mul]
      have e2:x=10000*(x/10000)+x%10000:=(Int.mul_ediv_add_emod x 10000).symm
      generalize x/10000=q at *
      generalize x%10000=m at *
      subst e2
      generalize ((10000^(i+k):Nat):Int)=p
      generalize valB 10000 (b.drop (k+1))=w
      generalize a.getD i 0=u at *
      generalize b.getD k 0=v at *
      generalize s.getD (i+k) 0=z at *
      have hc':c=10000*q+m-z-u*v:=by omega
      subst hc'
      grind)
    refine ⟨k',s',.step (λrec=>Q3y ha hb hs hi (by omega) hl' hc hgo rec) r1,r2,by rw [r3,List.length_set],r4⟩
  ·have hc0:c=0:=by omega
   have hkb:b.length<=k:=by omega
   subst hc0
   refine ⟨k,s,.done λrec=>?_,hs,rfl,?_⟩
   ·unfold z15.l2aaP
    simp only
    rw [Qa (by omega),Qa (by omega)]
   ·rw [List.drop_eq_nil_of_le hkb] at hv
    simpa [valB] using hv
theorem Qp8 {a b:List Int} (ha:inB 10000 a) (hb:inB 10000 b) (hal:a.length+b.length<=3000000000) :
  ∀
   (f i:Nat) (s:List Int),i+f=a.length->inB 10000 s->s.length=a.length+b.length+1->valB 10000 s=valB 10000 (a.take i)*valB 10000 b ->
   ∃s',Runs (λrec x=>z15.l0P a b rec some x) ((i:Int),s) ((a.length:Int),s')/\inB 10000 s'/\s'.length=s.length/\valB 10000 s'=valB 10000 a*valB 10000 b
 |
  0,i,s,hf,hs,hl,hv=>by
  have:i=a.length:=by omega
  subst this
  refine ⟨s,.done λrec=>?_,hs,rfl,by rwa [List.take_length] at hv⟩
  unfold z15.l0P
  simp
 |
  f+1,i,s,hf,hs,hl,hv=>by
  have hi:i<a.length:=by omega
  have hT:valB 10000 (a.take (i+1))*valB 10000 b<(10000^(i+1+b.length):Nat):=by
   have h1:=Yb b4 (Wo ha (i+1))
   have h2:=Yb b4 hb
   have h3:=Wm (Wo ha (i+1))
   have h4:=Wm hb
   rw [List.length_take,Nat.min_eq_left (by omega)] at h1
   rw [Nat.pow_add,Int.natCast_mul]
   rcases Int.lt_or_eq_of_le h4 with h0|h0
   ·exact Int.mul_lt_mul h1 (Int.le_of_lt h2) h0 (by omega)
   ·rw [<-h0,Int.mul_zero];exact Int.mul_pos (by omega) (by omega)
  obtain ⟨k',s',r1,r2,r3,r4⟩:=Qqu ha hb hi hT (b.length+2) 0 0 s hs (by omega) (by omega) (by omega) (by omega) (by
   rw [hv,Yp hi,List.drop_zero,Int.zero_add,Nat.add_zero,Wa hi];grind)
  obtain ⟨s2,q1,q2,q3,q4⟩:=Qp8 ha hb hal f (i+1) s' (by omega) r2 (by omega) r4
  refine ⟨s2,.step (λrec=>?_) q1,q2,by omega,q4⟩
  have e:z15.l2aa a b (i:Int) ((0:Int),(0:Int),s)=some ((0:Int),k',s'):=r1.lfp
  unfold z15.l0P
  simp only
  rw [bif_t (by omega),e]
  simp only [Zb]
  rw [Qc (by omega) (by omega)]
  rfl
theorem Qzr {a b:List Int} (ha:inB 10000 a) (hb:inB 10000 b) (hal:a.length+b.length<=900000000):z15.F a b=some (dg (valB 10000 a*valB 10000 b).toNat):=by
 unfold z15.F z15.l0
 have e:wr .i64 (wr .i64 ((a.length:Int)+(b.length:Int))+1)=((a.length+b.length+1:Nat):Int):=by
  rw [Qc (n:=(a.length:Int)+b.length) (by omega) (by omega),Qc (by omega) (by omega)];omega
 rw [e,if_pos (by omega),Zi]
 obtain ⟨s',r1,r2,r3,r4⟩:=Qp8 ha hb (by omega) a.length 0 (List.replicate (a.length+b.length+1) 0) (by omega) (Qa4 (by decide) _) (by simp) (by rw [Qca];simp [valB])
 rw [show ((0:Int),List.replicate (a.length+b.length+1) (0:Int))=(((0:Nat):Int),List.replicate (a.length+b.length+1) (0:Int)) from rfl,r1.lfp]
 simp only [Zb]
 rw [Qcf r2 (by show List.length _<=_;rw [r3];simp;omega),r4]
 rfl
theorem Qdp {m n:Nat} (hl:(dg m).length+(dg n).length<=900000000):z15.F (dg m) (dg n)=some (dg (m*n)):=by
 rw [Qzr (Qx b4 m) (Qx b4 n) hl,Q8 b4,Q8 b4]
 congr 2
theorem Qev (B:Nat) (l:List Int) (x:Int):valB B (l++[x])=valB B l+(B^l.length:Nat)*x:=by
 rw [Qdy];simp [valB]
theorem Qep {B:Nat} {l:List Int} {x:Int} (h:inB B l) (hx:0<=x/\x<B):inB B (l++[x]):=Qkb.2 ⟨h,Wt.2 ⟨hx,inB_nil B⟩⟩
theorem Q25 {a b s:List Int} {i:Nat} {c:Int} (ha:inB 10000 a) (hb:inB 10000 b) (hsl:s.length<=4000000000) (hil:i<=4000000000) (hc:0<=c/\c<10000) (hgo:i<a.length\/i<b.length\/0<c)
  (rec:Int×Int×List Int->Option (Int×Int×List Int)) :
  z107.l0b6P a b rec some (c,(i:Int),s)=rec ((a.getD i 0+b.getD i 0+c)/10000,((i+1:Nat):Int),s++[(a.getD i 0+b.getD i 0+c)%10000]):=by
 have h1:=Q2 (B:=10000) (by decide) ha i
 have h2:=Q2 (B:=10000) (by decide) hb i
 have e1:wr .i64 (a.getD i 0+b.getD i 0)=a.getD i 0+b.getD i 0:=Qc (by omega) (by omega)
 have e2:wr .i64 (a.getD i 0+b.getD i 0+c)=a.getD i 0+b.getD i 0+c:=Qc (by omega) (by omega)
 have e3:wr .i64 ((i:Int)+1)=((i+1:Nat):Int):=by rw [Qc (by omega) (by omega)];omega
 unfold z107.l0b6P
 simp only [Qgb,Zb,e1,e2,e3]
 rw [Yd (by omega),Yk (by omega),Qc (n:=(_:Int)/10000) (by omega) (by omega)]
 have c1:∀x:Int,(s.length+[x].length)*8<=140737488355328:=λx=>by simp;omega
 simp only [if_pos (c1 _)]
 by_cases h3:(i:Int)<(a.length:Int)
 ·rw [bif_t h3]
 ·rw [Qa h3]
  by_cases h4:(i:Int)<(b.length:Int)
  ·rw [bif_t h4]
  ·rw [Qa h4,bif_t (show c>0 by omega)]
theorem Qmn {a b:List Int} (ha:inB 10000 a) (hb:inB 10000 b) (hal:a.length+b.length<=900000000) :
  ∀
   (f i:Nat) (c:Int) (s:List Int),a.length+b.length+1<=i+f->i<=a.length+b.length+1->s.length=i->inB 10000 s->0<=c/\c<=1->(i=a.length+b.length+1->c=0) ->
   valB 10000 s+(c+valB 10000 (a.drop i)+valB 10000 (b.drop i))*(10000^i:Nat)=valB 10000 a+valB 10000 b ->
   ∃i' s',Runs (λrec x=>z107.l0b6P a b rec some x) (c,(i:Int),s) ((0:Int),i',s')/\inB 10000 s'/\s'.length<=a.length+b.length+1/\valB 10000 s'=valB 10000 a+valB 10000 b
 |
  f,i,c,s,hf,hi,hl,hs,hc,he,hv=>by
  by_cases hgo:i<a.length\/i<b.length\/0<c
  ·match f,hf with
   |
    0,hf=>
    have:i=a.length+b.length+1:=by omega
    have:=he this
    omega
   |
    f+1,hf=>
    have hi':i<a.length+b.length+1:=by
     rcases Nat.lt_or_ge i (a.length+b.length+1) with h|h
     ·exact h
     ·have:=he (by omega);omega
    have h1:=Q2 (B:=10000) (by decide) ha i
    have h2:=Q2 (B:=10000) (by decide) hb i
    obtain ⟨i',s',r1,r2,r3,r4⟩:=Qmn ha hb hal f (i+1) ((a.getD i 0+b.getD i 0+c)/10000) (s++[(a.getD i 0+b.getD i 0+c)%10000]) (by omega) (by omega) (by simp [hl]) (Qep hs (by omega)) (by omega)
     (λe=>by
      have h3:a.getD i 0=0\/b.getD i 0=0:=by
       by_cases ha':i<a.length
       ·right;simp [List.getD,List.getElem?_eq_none (show b.length<=i by omega)]
       ·left;simp [List.getD,List.getElem?_eq_none (show a.length<=i by omega)]
      have h5:a.getD i 0=0:=by
       by_cases ha':i<a.length
       ·have:b.length=0:=by omega
        exfalso
        have h6:i=a.length+b.length:=by omega
        omega
       ·simp [List.getD,List.getElem?_eq_none (show a.length<=i by omega)]
      have h6:b.getD i 0=0:=by simp [List.getD,List.getElem?_eq_none (show b.length<=i by omega)]
      omega)
     (by
      rw [Qev,<-hv,Wb a i,Wb b i,hl,Nat.pow_succ,Nat.mul_comm (10000^i) 10000,Int.natCast_mul]
      generalize hx:a.getD i 0+b.getD i 0+c=x
      have e2:x=10000*(x/10000)+x%10000:=(Int.mul_ediv_add_emod x 10000).symm
      generalize x/10000=q at *
      generalize x%10000=m at *
      subst e2
      generalize ((10000^i:Nat):Int)=p
      generalize valB 10000 (a.drop (i+1))=w
      generalize valB 10000 (b.drop (i+1))=w'
      generalize a.getD i 0=u at *
      generalize b.getD i 0=v at *
      have hc':c=10000*q+m-u-v:=by omega
      subst hc'
      grind)
    exact ⟨i',s',.step (λrec=>Q25 ha hb (by omega) (by omega) (by omega) hgo rec) r1,r2,r3,r4⟩
  ·have hc0:c=0:=by omega
   subst hc0
   refine ⟨i,s,.done λrec=>?_,hs,by omega,?_⟩
   ·unfold z107.l0b6P
    simp only
    rw [Qa (by omega),Qa (by omega),Qa (by omega)]
   ·rw [List.drop_eq_nil_of_le (by omega),List.drop_eq_nil_of_le (by omega)] at hv
    simpa [valB] using hv
theorem Qug {a b:List Int} (ha:inB 10000 a) (hb:inB 10000 b) (hal:a.length+b.length<=900000000):z107.F a b=some (dg (valB 10000 a+valB 10000 b).toNat):=by
 obtain ⟨i',s',r1,r2,r3,r4⟩:=Qmn ha hb hal (a.length+b.length+1) 0 0 [] (by omega) (by omega) rfl (inB_nil _) (by omega) (by omega) (by simp [valB])
 have e:z107.l0b6 a b ((0:Int),(0:Int),[])=some ((0:Int),i',s'):=r1.lfp
 unfold z107.F
 rw [e]
 simp only [Zb]
 rw [Qcf r2 (by show List.length _<=_;omega),r4]
 rfl
theorem Qoq {m n:Nat} (hl:(dg m).length+(dg n).length<=900000000):z107.F (dg m) (dg n)=some (dg (m+n)):=by
 rw [Qug (Qx b4 m) (Qx b4 n) hl,Q8 b4,Q8 b4]
 congr 2
theorem Qne {a b:List Int} (ha:inB 10000 a) (hb:inB 10000 b) (hl:a.length=b.length) (hal:a.length<=900000000):∀k:Nat,k<=a.length ->
  ∃o:Int⊕Int,Runs (λrec x=>z108.l0P a b rec some x) ((k:Int)-1) o/\(match o with | .inl _=>(0:Int) | .inr q=>q)=cmpI (valB 10000 (a.take k)) (valB 10000 (b.take k))
 |0,_=>⟨.inl (-1),.done λrec=>by unfold z108.l0P;rw [Qa (by omega)];rfl,by simp [cmpI,valB]⟩
 |
  k+1,hk=>by
  have hka:k<a.length:=by omega
  have hkb:k<b.length:=by omega
  have e0:((k+1:Nat):Int)-1=(k:Int):=by omega
  obtain ⟨p1,p2⟩:=Qha b4 ha hb hka hkb
  obtain ⟨p3,_⟩:=Qha b4 hb ha hkb hka
  have c1:(0:Int)<=(k:Int)/\(k:Int)<(a.length:Int):=by omega
  have c2:(0:Int)<=(k:Int)/\(k:Int)<(b.length:Int):=by omega
  rw [e0]
  rcases Int.lt_trichotomy a[k] b[k] with h|h|h
  ·refine ⟨.inr (-1),.done λrec=>?_,?_⟩
   ·unfold z108.l0P
    rw [bif_t (by omega),if_pos c1,if_pos c2,Zi,Wa hka,Wa hkb,bif_t h]
   ·have:=p1 h
    unfold cmpI;rw [if_pos this]
  ·obtain ⟨o,r1,r2⟩:=Qne ha hb hl hal k (by omega)
   refine ⟨o,.step (λrec=>?_) r1,?_⟩
   ·unfold z108.l0P
    rw [bif_t (by omega),Zi,Wa hka,Wa hkb]
    simp only [if_pos c1,if_pos c2]
    rw [Qa (by omega),Qa (by omega),Qc (by omega) (by omega)]
   ·rw [r2]
    have:=p2 h
    unfold cmpI
    split<;>split<;>(try split)<;>(try split)<;>first|rfl|omega
  ·refine ⟨.inr 1,.done λrec=>?_,?_⟩
   ·unfold z108.l0P
    rw [bif_t (by omega),Zi,Wa hka,Wa hkb]
    simp only [if_pos c1,if_pos c2]
    rw [Qa (by omega),bif_t h]
   ·have:=p3 h
    unfold cmpI;rw [if_neg (by omega),if_neg (by omega)]
theorem Qjy {m n:Nat} (hl:(dg m).length<=900000000):z108.F (dg m) (dg n)=some (cmpI m n):=by
 unfold z108.F
 by_cases he:(dg m).length=(dg n).length
 ·have e1:((dg m).length:Int)=((dg n).length:Int):=by omega
  rw [Zt e1]
  simp only [Zn,Zc]
  obtain ⟨o,r1,r2⟩:=Qne (Qx b4 m) (Qx b4 n) he hl (dg m).length (Nat.le_refl _)
  rw [Qc (by omega) (by omega)]
  unfold z108.l0
  rw [r1.lfp]
  simp only [Zb]
  rw [List.take_length,he,List.take_length,Q8 b4,Q8 b4] at r2
  rw [<-r2]
  cases o<;>rfl
 ·have e1:¬((dg m).length:Int)=((dg n).length:Int):=by omega
  rw [Zf e1]
  simp only [Zo,Zd]
  rcases Nat.lt_or_gt_of_ne he with h|h
  ·have:=Qb1 b4 h
   rw [bif_t (by omega)];unfold cmpI;rw [if_pos (by omega)]
  ·have:=Qb1 b4 h
   rw [Qa (by omega)];unfold cmpI;rw [if_neg (by omega),if_neg (by omega)]
theorem Qlk {a b:List Int} (ha:inB 10000 a) (hb:inB 10000 b) (hal:a.length<=900000000) :
  ∀
   (f i:Nat) (c:Int) (s:List Int),i+f=a.length->s.length=i->inB 10000 s->0<=c/\c<=1 ->
   valB 10000 s-c*(10000^i:Nat)=valB 10000 (a.take i)-valB 10000 (b.take i) ->
   ∃c' s',Runs (λrec x=>z109.l0P a b rec some x) (c,(i:Int),s) (c',(a.length:Int),s')/\inB 10000 s'/\s'.length=a.length/\(0<=c'/\c'<=1)/\valB 10000 s'-c'*(10000^a.length:Nat)=valB 10000 a-valB 10000 (b.take a.length)
 |
  0,i,c,s,hf,hl,hs,hc,hv=>by
  have:i=a.length:=by omega
  subst this
  refine ⟨c,s,.done λrec=>?_,hs,hl,hc,by rwa [List.take_length] at hv⟩
  unfold z109.l0P
  simp only
  rw [Qa (by omega)]
 |
  f+1,i,c,s,hf,hl,hs,hc,hv=>by
  have hi:i<a.length:=by omega
  have h1:=Q2 (B:=10000) (by decide) ha i
  have h2:=Q2 (B:=10000) (by decide) hb i
  have eb:valB 10000 (b.take (i+1))=valB 10000 (b.take i)+(10000^i:Nat)*b.getD i 0:=by
   by_cases hb':i<b.length
   ·rw [Yp hb',Wa hb']
   ·rw [List.take_of_length_le (by omega),List.take_of_length_le (by omega)]
    simp [List.getD,List.getElem?_eq_none (show b.length<=i by omega)]
  have e1:wr .i64 (a.getD i 0-b.getD i 0)=a.getD i 0-b.getD i 0:=Qc (by omega) (by omega)
  have e2:wr .i64 (a.getD i 0-b.getD i 0-c)=a.getD i 0-b.getD i 0-c:=Qc (by omega) (by omega)
  have e3:wr .i64 ((i:Int)+1)=((i+1:Nat):Int):=by rw [Qc (by omega) (by omega)];omega
  have e4:wr .i64 (a.getD i 0-b.getD i 0-c+10000)=a.getD i 0-b.getD i 0-c+10000:=Qc (by omega) (by omega)
  have c1:∀x:Int,(s.length+[x].length)*8<=140737488355328:=λx=>by simp;omega
  have c2:(0:Int)<=(i:Int)/\(i:Int)<(a.length:Int):=by omega
  by_cases hd:a.getD i 0-b.getD i 0-c<0
  ·obtain ⟨c',s',r1,r2,r3,r4,r5⟩:=Qlk ha hb hal f (i+1) 1 (s++[a.getD i 0-b.getD i 0-c+10000]) (by omega) (by simp [hl]) (Qep hs (by omega)) (by omega) (by
    rw [Qev,Yp hi,eb,hl,Nat.pow_succ,Nat.mul_comm (10000^i) 10000,Int.natCast_mul,<-Wa hi]
    generalize ((10000^i:Nat):Int)=p at *
    grind)
   refine ⟨c',s',.step (λrec=>?_) r1,r2,r3,r4,r5⟩
   unfold z109.l0P
   simp only [Qgb,Zb,Zi,e1,e2,e3,e4]
   rw [bif_t (by omega),if_pos c2,bif_t hd,if_pos (c1 _)]
  ·obtain ⟨c',s',r1,r2,r3,r4,r5⟩:=Qlk ha hb hal f (i+1) 0 (s++[a.getD i 0-b.getD i 0-c]) (by omega) (by simp [hl]) (Qep hs (by omega)) (by omega) (by
    rw [Qev,Yp hi,eb,hl,Nat.pow_succ,Nat.mul_comm (10000^i) 10000,Int.natCast_mul,<-Wa hi]
    generalize ((10000^i:Nat):Int)=p at *
    grind)
   refine ⟨c',s',.step (λrec=>?_) r1,r2,r3,r4,r5⟩
   unfold z109.l0P
   simp only [Qgb,Zb,Zi,e1,e2,e3,e4]
   rw [bif_t (by omega),if_pos c2,Qa hd,if_pos (c1 _)]
theorem Qh1 {m n:Nat} (hmn:n<=m) (hl:(dg m).length<=900000000):z109.F (dg m) (dg n)=some (dg (m-n)):=by
 obtain ⟨c',s',r1,r2,r3,r4,r5⟩:=Qlk (a:=dg m) (b:=dg n) (Qx b4 m) (Qx b4 n) hl (dg m).length 0 0 [] (by omega) rfl (inB_nil _) (by omega) (by simp [valB])
 have hlen:(dg n).length<=(dg m).length:=by
  rcases Nat.lt_or_ge (dg m).length (dg n).length with h|h
  ·have:=Qb1 b4 h;omega
  ·exact h
 rw [List.take_of_length_le hlen,Q8 b4,Q8 b4] at r5
 have h1:=Yb b4 r2
 rw [r3] at h1
 have hc:c'=0:=by
  rcases (show c'=0\/c'=1 by omega) with h|h
  ·exact h
  ·subst h;omega
 subst hc
 have e:z109.l0 (dg m) (dg n) ((0:Int),(0:Int),[])=some ((0:Int),((dg m).length:Int),s'):=r1.lfp
 unfold z109.F
 rw [e]
 simp only [Zb]
 rw [Qcf r2 (by show List.length _<=_;omega)]
 simp only [Zb]
 congr 2;omega
theorem Qsj {s:List UInt8} (hs:Qv s) (hl:s.length<=900000000) (e:Nat) (he:e<=s.length):∀(f i:Nat) (d:Int),i+f=e->f<=4->0<=d/\d<10^12/(10^f:Nat) ->
  Runs (λrec x=>z101.l2P s (e:Int) rec some x) (d,(i:Int)) (tv d ((s.take e).drop i),(e:Int))
 |
  0,i,d,hf,_,_=>by
  have:i=e:=by omega
  subst this
  refine .done λrec=>?_
  unfold z101.l2P
  simp only
  rw [Qa (by omega),List.drop_eq_nil_of_le (by simp;omega)]
  rfl
 |
  f+1,i,d,hf,h4,hd=>by
  have hi:i<s.length:=by omega
  have hb:=hs s[i] (List.getElem_mem hi)
  unfold digit at hb
  have hd':d<10^11:=by
   have:f=0\/f=1\/f=2\/f=3:=by omega
   rcases this with rfl|rfl|rfl|rfl<;>simp at hd ⊢<;>omega
  have hn:0<=10*d+(s[i].toNat:Int)-48/\10*d+(s[i].toNat:Int)-48<10^12/(10^f:Nat):=by
   have:f=0\/f=1\/f=2\/f=3:=by omega
   rcases this with rfl|rfl|rfl|rfl<;>simp at hd ⊢<;>omega
  have ih:=Qsj hs hl e he f (i+1) (10*d+(s[i].toNat:Int)-48) (by omega) (by omega) hn
  have hlt:i<(s.take e).length:=by simp;omega
  rw [List.drop_eq_getElem_cons hlt,List.getElem_take]
  refine .step (λrec=>?_) ih
  unfold z101.l2P
  simp only
  have eg:s.getD i 0=s[i]:=by simp [List.getD,hi]
  rw [bif_t (by omega),if_pos (by omega),Zi,eg,Qc (n:=10*d) (by omega) (by omega),Qc (n:=(s[i].toNat:Int)) (by omega) (by omega),Qc (n:=10*d+(s[i].toNat:Int)) (by omega) (by omega),Qc (n:=10*d+(s[i].toNat:Int)-48) (by omega) (by omega),Qc (n:=(i:Int)+1) (by omega) (by omega)]
  rfl
theorem Qnr {s:List UInt8} (hs:Qv s) (hl:s.length<=900000000):∀(f e:Nat) (out:List Int),e<=4*f->e<=s.length->out.length<=900000000-e->inB 10000 out->valB 10000 out+(10000^out.length:Nat)*tv 0 (s.take e)=tv 0 s ->
  ∃e' out',Runs (λrec x=>z101.l0P s rec some x) ((e:Int),out) (e',out')/\inB 10000 out'/\out'.length<=900000004/\valB 10000 out'=tv 0 s
 |
  0,e,out,hf,he,ho,hi,hv=>by
  have:e=0:=by omega
  subst this
  refine ⟨0,out,.done λrec=>?_,hi,by omega,by simpa [tv] using hv⟩
  unfold z101.l0P;simp
 |
  f+1,e,out,hf,he,ho,hi,hv=>by
  rcases Nat.eq_zero_or_pos e with rfl|h0
  ·refine ⟨0,out,.done λrec=>?_,hi,by omega,by simpa [tv] using hv⟩
   unfold z101.l0P;simp
  ·have hds:Qv ((s.take e).drop (e-4)):=λb hb=>hs b (List.mem_of_mem_take (List.mem_of_mem_drop hb))
   have hlen:((s.take e).drop (e-4)).length<=4:=by rw [List.length_drop,List.length_take];omega
   have htb:=Jh hds
   have hlt:tv 0 ((s.take e).drop (e-4))<10000:=by
    have h1:(10^((s.take e).drop (e-4)).length:Nat)<=10^4:=Nat.pow_le_pow_right (by decide) hlen
    have h2:((10^((s.take e).drop (e-4)).length:Nat):Int)<=10000:=Int.ofNat_le.2 h1
    omega
   have r:=Qsj hs hl e he (e-(e-4)) (e-4) 0 (by omega) (by omega) ⟨Int.le_refl 0,by
    have:e-(e-4)=1\/e-(e-4)=2\/e-(e-4)=3\/e-(e-4)=4:=by omega
    rcases this with h|h|h|h<;>rw [h]<;>omega⟩
   have er:z101.l2 s (e:Int) ((0:Int),((e-4:Nat):Int))=some (tv 0 ((s.take e).drop (e-4)),(e:Int)):=r.lfp
   have e1:wr .i64 ((e:Int)-4)=(e:Int)-4:=Qc (by omega) (by omega)
   have e2:(if (e:Int)-4>0 then (e:Int)-4 else 0)=((e-4:Nat):Int):=by split<;>omega
   have c1:∀x:Int,(out.length+[x].length)*8<=140737488355328:=λx=>by simp;omega
   have step:∀rec,z101.l0P s rec some ((e:Int),out)=rec ((e:Int)-4,out++[tv 0 ((s.take e).drop (e-4))]):=λrec=>by
    unfold z101.l0P
    simp only [e1,e2]
    rw [bif_t (by omega),er]
    simp only [Zb]
    rw [if_pos (c1 _)]
   by_cases h4:4<=e
   ·obtain ⟨e',out',r1,r2,r3,r4⟩:=Qnr hs hl f (e-4) (out++[tv 0 ((s.take e).drop (e-4))]) (by omega) (by omega) (by rw [List.length_append,List.length_singleton];omega) (Qep hi (by omega)) (by
     rw [Qev,<-hv]
     have e3:s.take e=s.take (e-4)++(s.take e).drop (e-4):=by
      have:=List.take_append_drop (e-4) (s.take e)
      rw [List.take_take,Nat.min_eq_left (by omega)] at this
      exact this.symm
     have e4:tv 0 (s.take e)=tv 0 (s.take (e-4))*10000+tv 0 ((s.take e).drop (e-4)):=by
      conv=>lhs;rw [e3]
      rw [Qfz,Qc8]
      have:((s.take e).drop (e-4)).length=4:=by rw [List.length_drop,List.length_take];omega
      rw [this];rfl
     rw [e4,List.length_append,List.length_singleton,Nat.pow_succ,Int.natCast_mul]
     generalize ((10000^out.length:Nat):Int)=p
     grind)
    have e5:(e:Int)-4=((e-4:Nat):Int):=by omega
    exact ⟨e',out',.step (λrec=>by rw [step rec,e5]) r1,r2,r3,r4⟩
   ·refine ⟨(e:Int)-4,out++[tv 0 ((s.take e).drop (e-4))],.step step (.done λrec=>?_),Qep hi (by omega),by rw [List.length_append,List.length_singleton];omega,?_⟩
    ·unfold z101.l0P
     simp only
     rw [Qa (by omega)]
    ·have e6:e-4=0:=by omega
     rw [Qev,<-hv,e6,List.drop_zero]
theorem Qfu {s:List UInt8} (hs:Qv s) (hl:s.length<=800000000):z101.F s=some (dg (tv 0 s).toNat):=by
 obtain ⟨e',out',r1,r2,r3,r4⟩:=Qnr hs (by omega) s.length s.length [] (by omega) (Nat.le_refl _) (Nat.zero_le _) (inB_nil _) (by simp [valB])
 have e:z101.l0 s ((s.length:Int),[])=some (e',out'):=r1.lfp
 unfold z101.F
 rw [e]
 simp only [Zb]
 rw [Qcf r2 (by show List.length _<=_;omega),r4]
 rfl
theorem dg_len0 (n:Nat):(((dg n).length:Nat):Int)=0↔n=0:=by
 constructor
 ·intro h;exact (toB_nil b4).1 (List.length_eq_zero_iff.1 (Int.ofNat_eq_zero.1 h))
 ·rintro rfl;simp [dg,toB_zero]
theorem Qhn (n:Nat):(((dg n).length:Nat):Int)>0↔0<n:=by
 have:=dg_len0 n;omega
theorem Qem (n:Nat) (b:Bool):z7.F (dg n) b=some (dg n,b&&decide (0<n)):=by
 unfold z7.F
 cases b
 ·rfl
 ·simp only [Zd,Bool.true_and]
  congr 2
  exact decide_eq_decide.2 (Qhn n)
theorem ref04_Of' {z:Int} {b:Bool} (h:(b=true/\z<=0)\/(b=false/\0<=z)):z7.F (dg z.natAbs) b=some (dg z.natAbs,neg z):=by
 rw [Qem]
 congr 2
 rcases h with ⟨rfl,h⟩|⟨rfl,h⟩
 ·rw [Bool.true_and];exact decide_eq_decide.2 (by omega)
 ·rw [Bool.false_and];symm;exact Zf (by omega)
theorem Wk {z:Int} (h:-9223372036854775808<z/\z<9223372036854775808):z9.F z=some (dg z.natAbs,neg z):=by
 unfold z9.F
 by_cases hz:z<0
 ·have e:wr .i64 (0-z)=((z.natAbs:Nat):Int):=by rw [Qc (by omega) (by omega)];omega
  rw [bif_t hz,e,Qfk (by omega)]
  simp only [Zb]
  rw [ref04_Of' (z:=z) (.inl ⟨rfl,by omega⟩)];rfl
 ·have e:z=((z.natAbs:Nat):Int):=by omega
  rw [Qa hz]
  conv=>lhs;rw [e]
  rw [Qfk (by omega)]
  simp only [Zb]
  rw [ref04_Of' (z:=z) (.inr ⟨rfl,by omega⟩)];rfl
theorem Qkc (z:Int):z106.F (dg z.natAbs) (neg z)=some (dg (-z).natAbs,neg (-z)):=by
 unfold z106.F
 have e:z.natAbs=(-z).natAbs:=by omega
 rw [e,Qem]
 simp only [Zb]
 congr 2
 show (!decide (z<0)&&_)=decide (-z<0)
 by_cases h:z<0
 ·rw [Zt h];symm;simp;omega
 ·rw [Zf h,Zo,Bool.true_and];exact decide_eq_decide.2 (by omega)
theorem Qhi {x y:Int} (hl:(dg x.natAbs).length+(dg y.natAbs).length<=900000000):z16.F (dg x.natAbs) (neg x) (dg y.natAbs) (neg y)=some (dg (x*y).natAbs,neg (x*y)):=by
 unfold z16.F
 rw [Qdp hl,<-Int.natAbs_mul]
 simp only [Zb]
 rw [Qem]
 simp only [Zb]
 congr 2
 have h0:0<(x*y).natAbs↔x≠0/\y≠0:=by
  rw [Int.natAbs_mul]
  constructor
  ·intro h;exact ⟨by rintro rfl;simp at h,by rintro rfl;simp at h⟩
  ·rintro ⟨h1,h2⟩;exact Nat.mul_pos (by omega) (by omega)
 rw [Bool.eq_iff_iff]
 simp only [Bool.and_eq_true,Bool.not_eq_true',decide_eq_true_eq,decide_eq_false_iff_not,h0]
 rcases Int.lt_trichotomy x 0 with hx|hx|hx<;>rcases Int.lt_trichotomy y 0 with hy|hy|hy
 ·have:=Int.mul_pos_of_neg_of_neg hx hy;simp [hx,hy];omega
 ·subst hy;simp
 ·have:=Int.mul_neg_of_neg_of_pos hx hy;simp [hx];omega
 ·subst hx;simp
 ·subst hx;simp
 ·subst hx;simp
 ·have:=Int.mul_neg_of_pos_of_neg hx hy;simp [hy];omega
 ·subst hy;simp
 ·have:=Int.mul_pos hx hy;simp;omega
theorem Qkl {z:Int} (hs:4*(dg z.natAbs).length<=1000000000) (hl:(txt z.natAbs).length<=1000000000):z6.F (dg z.natAbs) (neg z)=some (if z<0 then 45::txt z.natAbs else txt z.natAbs):=by
 unfold z6.F
 rw [Qle hs]
 simp only [Zb]
 by_cases h:z<0
 ·rw [bif_t h,if_pos (by simp;omega),if_pos h];rfl
 ·rw [Qa h,if_neg h]
theorem Y5 {z:Int} {n:Nat} {b:Bool} (hn:n=z.natAbs) (h:(b=true/\z<=0)\/(b=false/\0<=z)):z7.F (dg n) b=some (dg z.natAbs,neg z):=by
 subst hn;exact ref04_Of' h
theorem Qd8 {x y:Int} (hl:(dg x.natAbs).length+(dg y.natAbs).length<=900000000):z110.F (dg x.natAbs) (neg x) (dg y.natAbs) (neg y)=some (dg (x+y).natAbs,neg (x+y)):=by
 unfold z110.F
 by_cases hs:neg x=neg y
 ·have hs':(x<0↔y<0):=by simpa [neg] using hs
  rw [bif_t hs,Qoq hl]
  simp only [Zb]
  rw [Y5 (z:=x+y) (by omega) (by by_cases hx:x<0;exact .inl ⟨Zt hx,by omega⟩;exact .inr ⟨Zf hx,by omega⟩)]
  rfl
 ·have hs':¬(x<0↔y<0):=by simpa [neg] using hs
  rw [Qa hs,Qjy (by omega)]
  simp only [Zb]
  by_cases hc:cmpI (x.natAbs:Int) (y.natAbs:Int)>=0
  ·have hc':=W7.1 hc
   rw [bif_t hc,Qh1 (by omega) (by omega)]
   simp only [Zb]
   rw [Y5 (z:=x+y) (by omega) (by by_cases hx:x<0;exact .inl ⟨Zt hx,by omega⟩;exact .inr ⟨Zf hx,by omega⟩)]
   rfl
  ·have hc':¬((y.natAbs:Int)<=x.natAbs):=λh=>hc (W7.2 h)
   rw [Qa hc,Qh1 (by omega) (by omega)]
   simp only [Zb]
   rw [Y5 (z:=x+y) (by omega) (by by_cases hy:y<0;exact .inl ⟨Zt hy,by omega⟩;exact .inr ⟨Zf hy,by omega⟩)]
   rfl
theorem Qf5 {x y:Int} (hl:(dg x.natAbs).length+(dg y.natAbs).length<=900000000):z111.F (dg x.natAbs) (neg x) (dg y.natAbs) (neg y)=some (dg (x-y).natAbs,neg (x-y)):=by
 unfold z111.F
 rw [Qkc]
 simp only [Zb]
 rw [Qd8 (by rw [Int.natAbs_neg];exact hl)]
 rfl
theorem Qvo (z:Int):z112.F (dg z.natAbs) (neg z)=some (cmpI z 0):=by
 unfold z112.F cmpI
 by_cases h0:z=0
 ·subst h0;rw [bif_t ((dg_len0 (Int.natAbs 0)).2 rfl)];rfl
 ·rw [Qa (λh=>h0 (by have:=(dg_len0 _).1 h;omega))]
  by_cases h:z<0
  ·rw [bif_t h,if_pos h]
  ·rw [Qa h,if_neg h,if_neg h0]
theorem Qj2 {x y:Int} (hl:(dg x.natAbs).length+(dg y.natAbs).length<=900000000):z113.F (dg x.natAbs) (neg x) (dg y.natAbs) (neg y)=some (cmpI x y):=by
 unfold z113.F
 rw [Qf5 hl]
 simp only [Zb]
 rw [Qvo,Qnj]
 rfl
theorem Qp (n:Nat):(dg n).length<=sz n:=Yj b4 (Nat.lt_of_lt_of_le (J6 n) (Nat.pow_le_pow_left (by decide) _))
theorem Qcg:dg 0=[]:=toB_zero 10000
theorem Qj9 (y:Int):z10.F y=some (decide (goodY y/\leap y)):=by
 unfold z10.F z10.j1
 simp only [Qc2 (show (0:Int)<4 by decide),Qc2 (show (0:Int)<100 by decide),Qc2 (show (0:Int)<400 by decide)]
 by_cases h1:y<1
 ·rw [bif_t h1];congr 1;symm;exact Zf (by omega)
 ·rw [Qa h1]
  by_cases h2:y>9999
  ·rw [bif_t h2];congr 1;symm;exact Zf (by omega)
  ·rw [Qa h2]
   by_cases h4:y%400=0
   ·rw [bif_t h4];congr 1;symm;exact Zt (by omega)
   ·rw [Qa h4]
    by_cases h3:y%4=0
    ·rw [bif_t h3];congr 1
     by_cases h5:y%100=0
     ·rw [Zt h5];symm;exact Zf (by omega)
     ·rw [Zf h5];symm;exact Zt (by omega)
    ·rw [Qa h3];congr 1;symm;exact Zf (by omega)
theorem Qcx (y m:Int):z11.F y m=some (dDays y m):=by
 unfold z11.F z11.j1 dDays
 by_cases h0:y<1
 ·rw [bif_t h0,if_pos (by omega)]
 ·rw [Qa h0]
  by_cases h9:y>9999
  ·rw [bif_t h9,if_pos (by omega)]
  ·rw [Qa h9]
   by_cases h1:m<1
   ·rw [bif_t h1,if_pos (by omega)]
   ·rw [Qa h1]
    by_cases h12:m>12
    ·rw [bif_t h12,if_pos (by omega)]
    ·rw [Qa h12,if_neg (by omega)]
     by_cases h2:m=2
     ·rw [bif_t h2,if_pos h2,Qj9]
      simp only [Zb]
      by_cases hl:leap y
      ·rw [Zt ⟨by omega,hl⟩,if_pos hl];rfl
      ·rw [Zf (λhh=>hl hh.2),if_neg hl];rfl
     ·rw [Qa h2,if_neg h2]
      by_cases g4:m=4
      ·rw [bif_t g4,if_pos (.inl g4)]
      ·rw [Qa g4]
       by_cases g6:m=6
       ·rw [bif_t g6,if_pos (by omega)]
       ·rw [Qa g6]
        by_cases g9:m=9
        ·rw [bif_t g9,if_pos (by omega)]
        ·rw [Qa g9]
         by_cases g11:m=11
         ·rw [bif_t g11,if_pos (by omega)]
         ·rw [Qa g11,if_neg (by omega)]
theorem Y3 (y m d:Int):z126.F y m d=some (decide (right y m d)):=by
 unfold z126.F
 rw [Qcx]
 simp only [Zb]
 by_cases h:d>=1
 ·rw [bif_t h];congr 1;exact decide_eq_decide.2 (by omega)
 ·rw [Qa h];congr 1;symm;exact Zf (by omega)
theorem Qqs {n:Int} (hn:1<=n):∀(f:Nat) (y:Int),1<=y->y<=f+1->y<=10000->∃y',Runs (λrec x=>z99.l0P n rec some x) y y'/\1<=y'/\y'<=y/\aheadY y'<n
 |
  0,y,h1,h2,h3=>by
  have:y=1:=by omega
  subst this
  have e:aheadY 1=0:=rfl
  refine ⟨1,.done λrec=>?_,by omega,by omega,by omega⟩
  unfold z99.l0P
  rw [Qbv (by omega) (by omega)]
  simp only [Zb]
  rw [Qa (by omega)]
 |
  f+1,y,h1,h2,h3=>by
  by_cases h:aheadY y>=n
  ·have hy:1<y:=by
    rcases Int.lt_or_eq_of_le h1 with h'|h'
    ·exact h'
    ·subst h';have e:aheadY 1=0:=rfl;omega
   obtain ⟨y',r,a1,a2,a3⟩:=Qqs hn f (y-1) (by omega) (by omega) (by omega)
   refine ⟨y',.step (λrec=>?_) r,a1,by omega,a3⟩
   unfold z99.l0P
   rw [Qbv (by omega) (by omega)]
   simp only [Zb]
   rw [bif_t h,Qc (by omega) (by omega)]
  ·refine ⟨y,.done λrec=>?_,by omega,by omega,by omega⟩
   unfold z99.l0P
   rw [Qbv (by omega) (by omega)]
   simp only [Zb]
   rw [Qa h]
theorem Qpt {n:Int} (hn:n<=3652059):∀(f:Nat) (y:Int),1<=y->y<=9999->9999<=y+f->aheadY y<n->∃y',Runs (λrec x=>z99.l2b6P n rec some x) y y'/\1<=y'/\y'<=9999/\aheadY y'<n/\n<=aheadY (y'+1)
 |
  0,y,h1,h2,h3,h4=>by
  have:y=9999:=by omega
  subst this
  have e:aheadY 10000=3652059:=by decide
  refine ⟨9999,.done λrec=>?_,by omega,by omega,h4,by show n<=aheadY 10000;omega⟩
  unfold z99.l2b6P
  rw [Qa (by omega)]
 |
  f+1,y,h1,h2,h3,h4=>by
  by_cases h9:y<9999
  ·have e1:wr .i64 (y+1)=y+1:=Qc (by omega) (by omega)
   by_cases h:aheadY (y+1)<n
   ·obtain ⟨y',r,a1,a2,a3,a4⟩:=Qpt hn f (y+1) (by omega) (by omega) (by omega) h
    refine ⟨y',.step (λrec=>?_) r,a1,a2,a3,a4⟩
    unfold z99.l2b6P
    rw [bif_t h9,e1,Qbv (by omega) (by omega)]
    simp only [Zb]
    rw [bif_t h]
   ·refine ⟨y,.done λrec=>?_,h1,h2,h4,by omega⟩
    unfold z99.l2b6P
    rw [bif_t h9,e1,Qbv (by omega) (by omega)]
    simp only [Zb]
    rw [Qa h]
  ·have:y=9999:=by omega
   subst this
   have e:aheadY 10000=3652059:=by decide
   refine ⟨9999,.done λrec=>?_,by omega,by omega,h4,by show n<=aheadY 10000;omega⟩
   unfold z99.l2b6P
   rw [Qa (by omega)]
theorem Ql3 {y c:Int} (hy:goodY y) (hc:c<=cumD y 13):∀(f:Nat) (n m:Int),1<=n->n<=400->1<=m->m<=12->12<=m+f->n+cumD y m=c->∃n' m',Runs (λrec x=>z99.l4P y rec some x) (n,m) (n',m')/\right y m' n'/\n'+cumD y m'=c
 |
  0,n,m,h1,h2,h3,h4,h5,h6=>by
  have:m=12:=by omega
  subst this
  have s:=Jj hy (m:=12) (by omega)
  have s':cumD y (12+1)=cumD y 13:=rfl
  refine ⟨n,12,.done λrec=>?_,⟨h1,by omega⟩,h6⟩
  unfold z99.l4P
  simp only
  rw [date_Days]
  simp only [Zb]
  rw [Qa (by omega)]
 |
  f+1,n,m,h1,h2,h3,h4,h5,h6=>by
  have s:=Jj hy (m:=m) (by omega)
  have hd:=Qdg y m
  by_cases h:n>dDays y m
  ·have hm:m<12:=by
    rcases Int.lt_or_eq_of_le h4 with h'|h'
    ·exact h'
    ·subst h'
     have s':cumD y (12+1)=cumD y 13:=rfl
     omega
   obtain ⟨n',m',r,a1,a2⟩:=Ql3 hy hc f (n-dDays y m) (m+1) (by omega) (by omega) (by omega) (by omega) (by omega) (by omega)
   refine ⟨n',m',.step (λrec=>?_) r,a1,a2⟩
   unfold z99.l4P
   simp only
   rw [date_Days]
   simp only [Zb]
   rw [bif_t h,Qc (by omega) (by omega),Qc (by omega) (by omega)]
  ·refine ⟨n,m,.done λrec=>?_,⟨h1,by omega⟩,h6⟩
   unfold z99.l4P
   simp only
   rw [date_Days]
   simp only [Zb]
   rw [Qa h]
theorem date_Of {n:Int} (h:1<=n/\n<=3652059):∃y m d,z99.F n=some (y,m,d,0)/\right y m d/\num y m d=n:=by
 unfold z99.F z99.j1
 rw [Qa (by omega),Qa (by omega),Qc (n:=n*400) (by omega) (by omega),Yd (by omega),Qc (n:=n*400/146097) (by omega) (by omega),Qc (n:=n*400/146097+1) (by omega) (by omega)]
 generalize hy0:(if 9999<n*400/146097+1 then (9999:Int) else n*400/146097+1)=y0
 have b0:1<=y0/\y0<=9999:=by subst hy0;split<;>omega
 obtain ⟨y1,r1,a1,a2,a3⟩:=Qqs h.1 9999 y0 b0.1 (by omega) (by omega)
 obtain ⟨y2,r2,c1,c2,c3,c4⟩:=Qpt h.2 9999 y1 a1 (by omega) (by omega) a3
 have s:=Qan y2
 have sb:=Qi7 (y:=y2) (m:=13) (by omega)
 obtain ⟨n',m',r3,d1,d2⟩:=Ql3 (y:=y2) (c:=n-aheadY y2) ⟨c1,c2⟩ (by omega) 11 (n-aheadY y2) 1 (by omega) (by omega) (by omega) (by omega) (by omega) (by rw [Jm];omega)
 have e1:z99.l0 n y0=some y1:=r1.lfp
 have e2:z99.l2b6 n y1=some y2:=r2.lfp
 have e3:z99.l4 y2 (n-aheadY y2,(1:Int))=some (n',m'):=r3.lfp
 have hb:=Jy (y:=y2) (by omega)
 rw [e1]
 simp only [Zb]
 rw [e2]
 simp only [Zb]
 rw [Qbv (by omega) (by omega)]
 simp only [Zb]
 rw [Qc (by omega) (by omega),e3]
 refine ⟨y2,m',n',rfl,d1,?_⟩
 unfold num;omega
theorem Q3d {n:Int} (h:¬(1<=n/\n<=3652059)):z99.F n=some (0,0,0,11):=by
 unfold z99.F
 by_cases h1:n<1
 ·rw [bif_t h1]
 ·rw [Qa h1,bif_t (by omega)]
theorem month_AddDays {y m d k:Int} (h:right y m d):(∃y' m' d',z100.F y m d k=some (y',m',d',0)/\right y' m' d'/\num y' m' d'=num y m d+k)\/(¬(1<=num y m d+k/\num y m d+k<=3652059)/\z100.F y m d k=some (0,0,0,11)):=by
 have b:=Qh7 h
 unfold z100.F
 rw [date_Number,if_pos h]
 simp only [Zb,decide_true,Zn,Zc]
 by_cases h1:k < -3719628
 ·rw [bif_t h1];exact .inr ⟨by omega,rfl⟩
 ·rw [Qa h1]
  by_cases h2:k>3719628
  ·rw [bif_t h2];exact .inr ⟨by omega,rfl⟩
  ·rw [Qa h2,Qc (by omega) (by omega)]
   by_cases hr:1<=num y m d+k/\num y m d+k<=3652059
   ·obtain ⟨y',m',d',e,r,n⟩:=date_Of hr
    rw [e]
    exact .inl ⟨y',m',d',rfl,r,n⟩
   ·rw [Q3d hr]
    exact .inr ⟨hr,rfl⟩
theorem Qjz {a b:Int} (hb:0<b):(Int.tmod a b<0->Int.tmod a b+b=a%b)/\(¬Int.tmod a b<0->Int.tmod a b=a%b)/\-b<Int.tmod a b/\Int.tmod a b<b:=by
 have h1:=Int.emod_nonneg a (show b≠0 by omega)
 have h2:=Int.emod_lt_of_pos a hb
 have h3:=Int.tmod_eq_emod (a:=a) (b:=b)
 by_cases h:0<=a\/b∣a
 ·rw [if_pos h] at h3;omega
 ·rw [if_neg h] at h3
  have:a%b≠0:=λe=>h (.inr (Int.dvd_of_emod_eq_zero e))
  omega
theorem Qks {a b c n:Int} (hn:1<=n/\n<=9999):∃y m d,z12.F a b c n=some (y,m,d)/\right y m d/\y<=n:=by
 have f1:=Qjz (a:=a) (b:=n) (by omega)
 have f2:=Qjz (a:=b) (b:=12) (by omega)
 have m1:=Int.emod_nonneg a (show n≠0 by omega)
 have m2:=Int.emod_lt_of_pos a (show 0<n by omega)
 have hd:=Qbn (y:=a%n+1) (m:=b%12+1) (by omega) (by omega)
 have hd':=Qdg (a%n+1) (b%12+1)
 have f3:=Qjz (a:=c) (b:=dDays (a%n+1) (b%12+1)) (by omega)
 have m5:=Int.emod_nonneg c (show dDays (a%n+1) (b%12+1)≠0 by omega)
 have m6:=Int.emod_lt_of_pos c (show 0<dDays (a%n+1) (b%12+1) by omega)
 refine ⟨a%n+1,b%12+1,c%dDays (a%n+1) (b%12+1)+1,?_,⟨by omega,by omega⟩,by omega⟩
 have hj8:∀j,j=b%12->Int.tmod a n=a%n->z12.j8 a n j c=some (a%n+1,b%12+1,c%dDays (a%n+1) (b%12+1)+1):=λj hj ht=>by
  subst hj
  unfold z12.j8
  rw [ht,Qc (n:=a%n+1) (by omega) (by omega),Qc (n:=b%12+1) (by omega) (by omega),Qcx]
  simp only [Zb]
  rw [if_neg (by omega)]
  generalize dDays (a%n+1) (b%12+1)=k at *
  by_cases h:Int.tmod c k<0
  ·rw [bif_t h,Qc (n:=Int.tmod c k+k) (by omega) (by omega),f3.1 h,Qc (by omega) (by omega)]
  ·rw [Qa h,f3.2.1 h,Qc (by omega) (by omega)]
 have hj5:∀j,j=b%12->Int.tmod a n<0->z12.j5 a n j c=some (a%n+1,b%12+1,c%dDays (a%n+1) (b%12+1)+1):=λj hj ht=>by
  subst hj
  unfold z12.j5 z12.j7
  rw [Qc (n:=Int.tmod a n+n) (by omega) (by omega),f1.1 ht,Qc (n:=a%n+1) (by omega) (by omega),Qc (n:=b%12+1) (by omega) (by omega),Qcx]
  simp only [Zb]
  rw [if_neg (by omega)]
  generalize dDays (a%n+1) (b%12+1)=k at *
  by_cases h:Int.tmod c k<0
  ·rw [bif_t h,Qc (n:=Int.tmod c k+k) (by omega) (by omega),f3.1 h,Qc (by omega) (by omega)]
  ·rw [Qa h,f3.2.1 h,Qc (by omega) (by omega)]
 unfold z12.F
 rw [if_neg (by omega)]
 by_cases h1:Int.tmod a n<0
 ·rw [bif_t h1]
  by_cases h2:Int.tmod b 12<0
  ·rw [bif_t h2,Qc (by omega) (by omega),f2.1 h2];exact hj5 _ rfl h1
  ·rw [Qa h2,f2.2.1 h2];exact hj5 _ rfl h1
 ·rw [Qa h1]
  by_cases h2:Int.tmod b 12<0
  ·rw [bif_t h2,Qc (by omega) (by omega),f2.1 h2];exact hj8 _ rfl (f1.2.1 h1)
  ·rw [Qa h2,f2.2.1 h2];exact hj8 _ rfl (f1.2.1 h1)
def dv (x:D3):List V:=[.int .i64 x.1,.int .i64 x.2.1,.int .i64 x.2.2]
def pv (x:D3×D3):List V:=[.int .i64 x.1.1,.int .i64 x.1.2.1,.int .i64 x.1.2.2,.int .i64 x.2.1,.int .i64 x.2.2.1,.int .i64 x.2.2.2]
theorem asD0 {R:Type} (x:D3) (K:Int->Option R):V.asInt .i64 ((dv x).getD 0 .undef) K=K x.1:=by simp [dv,V.asInt]
theorem asD1 {R:Type} (x:D3) (K:Int->Option R):V.asInt .i64 ((dv x).getD 1 .undef) K=K x.2.1:=by simp [dv,V.asInt]
theorem asD2 {R:Type} (x:D3) (K:Int->Option R):V.asInt .i64 ((dv x).getD 2 .undef) K=K x.2.2:=by simp [dv,V.asInt]
theorem Qiv {b r:Nat} (hb:0<b) (hs:sz b+sz r<=300000000):∀(f lo hi:Nat),hi-lo<=f->lo<=hi->hi<=9999->b*lo<=r->r<b*(hi+1) ->
  Runs (λrec x=>z115.l2P (dg b) (dg r) rec some x) ((lo:Int),(hi:Int)) (((r/b:Nat):Int),((r/b:Nat):Int))
 |
  0,lo,hi,hf,hl,hh,h1,h2=>by
  have:lo=hi:=by omega
  subst this
  have e:r/b=lo:=Nat.div_eq_of_lt_le (by rw [Nat.mul_comm];exact h1) (by rw [Nat.mul_comm];exact h2)
  rw [e]
  refine .done λrec=>?_
  unfold z115.l2P
  simp only
  rw [Qa (by omega)]
 |
  f+1,lo,hi,hf,hl,hh,h1,h2=>by
  by_cases h:lo<hi
  ·have e1:wr .i64 (Int.tdiv (wr .i64 (wr .i64 ((lo:Int)+(hi:Int))+1)) 2)=(((lo+hi+1)/2:Nat):Int):=by
    rw [Qc (n:=(lo:Int)+(hi:Int)) (by omega) (by omega),Qc (n:=(lo:Int)+(hi:Int)+1) (by omega) (by omega),Yd (by omega),Qc (by omega) (by omega)];omega
   obtain ⟨mid,hmid⟩:∃mid,(lo+hi+1)/2=mid:=⟨_,rfl⟩
   rw [hmid] at e1
   have sm:sz mid<=4:=sz_le (by omega)
   have sbm:=Q7 b mid
   have l1:=Qp b
   have l2:=Qp mid
   have l3:=Qp (b*mid)
   have step:∀rec:(Int×Int)->Option (Int×Int),z115.l2P (dg b) (dg r) rec some ((lo:Int),(hi:Int))=if b*mid<=r then rec ((mid:Int),(hi:Int)) else rec ((lo:Int),((mid-1:Nat):Int)):=λrec=>by
    unfold z115.l2P
    simp only
    rw [bif_t (by omega),e1,Qfk (by omega)]
    simp only [Zb]
    rw [Qdp (by omega)]
    simp only [Zb]
    rw [Qjy (by omega)]
    simp only [Zb]
    by_cases hc:b*mid<=r
    ·rw [if_pos hc,bif_t (by
      rcases Nat.lt_or_eq_of_le hc with h3|h3
      ·exact Int.le_of_lt (Q6.2 (by exact_mod_cast h3))
      ·exact Int.le_of_eq (Yt.2 (by exact_mod_cast h3)))]
    ·rw [if_neg hc,Qa (by
      have:=Wh (m:=((b*mid:Nat):Int)) (n:=(r:Int))
      have h4:=this.2 (by exact_mod_cast Nat.lt_of_not_le hc)
      omega),Qc (n:=(mid:Int)-1) (by omega) (by omega)]
     congr 2;omega
   by_cases hc:b*mid<=r
   ·refine .step (λrec=>?_) (Qiv hb hs f mid hi (by omega) (by omega) hh hc h2)
    rw [step,if_pos hc]
   ·refine .step (λrec=>?_) (Qiv hb hs f lo (mid-1) (by omega) (by omega) (by omega) h1 (by rw [show mid-1+1=mid by omega];omega))
    rw [step,if_neg hc]
  ·have:lo=hi:=by omega
   subst this
   have e:r/b=lo:=Nat.div_eq_of_lt_le (by rw [Nat.mul_comm];exact h1) (by rw [Nat.mul_comm];exact h2)
   rw [e]
   refine .done λrec=>?_
   unfold z115.l2P
   simp only
   rw [Qa (by omega)]
theorem Qn6 {a:List Int} {b N:Nat} (ha:inB 10000 a) (hb:0<b) (hs:sz b<=100000000) (hl:a.length<=800000000) (hN:(N:Int)=valB 10000 a) :
  ∀
   (k:Nat),k<=a.length->∀(m:Nat) (q:List Int),(m:Int)=valB 10000 (a.drop k)->q.length=a.length->inB 10000 q->valB 10000 (q.drop k)=((m/b:Nat):Int) ->
   ∃q',Runs (λrec x=>z115.l0aP a (dg b) rec some x) (dg (m%b),(k:Int)-1,q) (dg (N%b),(-1:Int),q')/\q'.length=a.length/\inB 10000 q'/\valB 10000 q'=((N/b:Nat):Int)
 |
  0,hk,m,q,hm,hq,hi,hv=>by
  have:m=N:=by rw [List.drop_zero] at hm;omega
  subst this
  refine ⟨q,.done λrec=>?_,hq,hi,by rwa [List.drop_zero] at hv⟩
  unfold z115.l0aP
  simp only
  rw [Qa (by omega)];rfl
 |
  k+1,hk,m,q,hm,hq,hi,hv=>by
  have hka:k<a.length:=by omega
  have hkq:k<q.length:=by omega
  have hd:=Q2 (B:=10000) (by decide) ha k
  obtain ⟨d,hd'⟩:∃d:Nat,a.getD k 0=(d:Int):=⟨(a.getD k 0).toNat,by omega⟩
  have hd2:d<10000:=by omega
  obtain ⟨r,hr⟩:∃r,m%b=r:=⟨_,rfl⟩
  have hrb:r<b:=hr▸Nat.mod_lt m hb
  obtain ⟨x,hx⟩:∃x,d+10000*r=x:=⟨_,rfl⟩
  have hxb:x<b*10000:=by omega
  have sx:sz x<=sz b+4:=sz_le (by
   have h1:=J6 b
   rw [Nat.pow_add]
   exact Nat.lt_of_lt_of_le hxb (Nat.mul_le_mul_right _ (Nat.le_of_lt h1)))
  have sr:sz r<=sz b:=Qu (by omega)
  have l1:=Qp x
  have l2:=Qp r
  have l3:=Qp b
  obtain ⟨z,hz⟩:∃z,x/b=z:=⟨_,rfl⟩
  obtain ⟨w,hw⟩:∃w,x%b=w:=⟨_,rfl⟩
  obtain ⟨y,hy⟩:∃y,m/b=y:=⟨_,rfl⟩
  have hq1:z<10000:=hz▸Nat.div_lt_of_lt_mul hxb
  have hdm:b*z+w=x:=by rw [<-hz,<-hw];exact Nat.div_add_mod x b
  have hmm:b*y+r=m:=by rw [<-hy,<-hr];exact Nat.div_add_mod m b
  have hm':((d+10000*m:Nat):Int)=valB 10000 (a.drop k):=by rw [Wb,hd',<-hm];omega
  have e:d+10000*m=x+b*(10000*y):=by
   have h4:b*(10000*y)=10000*(b*y):=by rw [<-Nat.mul_assoc,Nat.mul_comm b 10000,Nat.mul_assoc]
   omega
  have hdiv:(d+10000*m)/b=z+10000*y:=by rw [e,Nat.add_mul_div_left _ _ hb,hz]
  have hmod:(d+10000*m)%b=w:=by rw [e,Nat.add_mul_mod_self_left,hw]
  have hvq:valB 10000 ((q.set k (z:Int)).drop k)=(((d+10000*m)/b:Nat):Int):=by
   rw [Wb,Qfj,hv,hdiv,hy]
   have:(q.set k (z:Int)).getD k 0=(z:Int):=by simp [List.getD,hkq]
   rw [this];omega
  obtain ⟨q',r1,r2,r3,r4⟩:=Qn6 ha hb hs hl hN k (by omega) (d+10000*m) (q.set k (z:Int)) hm' (by simp [hq]) (Yc hi (by show (0:Int)<=(z:Int)/\(z:Int)<10000;omega)) hvq
  rw [hmod] at r1
  refine ⟨q',.step (λrec=>?_) r1,r2,r3,r4⟩
  have hsr:=Qiv (b:=b) (r:=x) hb (by omega) 9999 0 9999 (by omega) (by omega) (by omega) (by omega) (by omega)
  have es:z115.l2 (dg b) (dg x) ((0:Int),(9999:Int))=some (((x/b:Nat):Int),((x/b:Nat):Int)):=hsr.lfp
  rw [hz] at es
  have et:z14.F ([(d:Int)]++dg r)=some (dg x):=by
   rw [Qcf (Qkb.2 ⟨Wt.2 ⟨by omega,inB_nil _⟩,Qx b4 r⟩) (by show ([(d:Int)]++dg r).length<=1000000000;rw [List.length_append,List.length_singleton];omega)]
   have:valB 10000 ([(d:Int)]++dg r)=(x:Int):=by
    show (d:Int)+((10000:Nat):Int)*valB 10000 (dg r)=x
    rw [Q8 b4];omega
   rw [this];rfl
  have szz:sz z<=4:=sz_le (by omega)
  have l4:=Qp z
  have l5:=Qp (b*z)
  have sbz:=Q7 b z
  have ek:((k+1:Nat):Int)-1=(k:Int):=by omega
  unfold z115.l0aP
  simp only
  rw [ek,bif_t (by omega),if_pos (by omega),Zi,hd',hr,if_pos (by rw [List.length_singleton];omega),et]
  simp only [Zb]
  rw [es]
  simp only [Zb]
  rw [if_pos (by omega),if_pos hkq,Qfk (by omega)]
  simp only [Zb]
  rw [Qdp (by omega)]
  simp only [Zb]
  rw [Qh1 (by omega) (by omega)]
  simp only [Zb]
  rw [Qc (by omega) (by omega),show x-b*z=w by omega]
theorem Qd0 {a b:Nat} (hb:0<b) (ha:sz a<=700000000) (hs:sz b<=100000000):z115.F (dg a) (dg b)=some (dg (a/b),dg (a%b)):=by
 have l1:=Qp a
 obtain ⟨q',r1,r2,r3,r4⟩:=Qn6 (a:=dg a) (b:=b) (N:=a) (Qx b4 a) hb hs (by omega) (by rw [Q8 b4]) (dg a).length (Nat.le_refl _) 0 (List.replicate (dg a).length 0) (by rw [List.drop_length];rfl) (by simp) (Qa4 (by decide) _) (by rw [List.drop_eq_nil_of_le (by simp)];simp [valB])
 rw [Nat.zero_mod,Qcg] at r1
 have e:z115.l0a (dg a) (dg b) ([],((dg a).length:Int)-1,List.replicate (dg a).length 0)=some (dg (a%b),(-1:Int),q'):=r1.lfp
 unfold z115.F
 rw [if_pos (by omega),Zi,Qc (by omega) (by omega),e]
 simp only [Zb]
 rw [Qcf r3 (by show List.length _<=_;omega),r4]
 rfl
theorem Q10 {a b:Nat} (ha:sz a<=100000000) (hb:sz b<=100000000):z116.F (dg a) (dg b)=some (dg (Nat.gcd a b)):=by
 have key:∀(f a b:Nat),b<f->sz a<=100000000->sz b<=100000000->Runs (λrec x=>z116.l0P rec some x) (dg a,dg b) (dg (Nat.gcd a b),[]):=by
  intro f
  induction f with
  |zero=>intro a b h;omega
  |
   succ f ih=>
   intro a b h ha hb
   rcases Nat.eq_zero_or_pos b with h0|h0
   ·subst h0
    refine .done λrec=>?_
    unfold z116.l0P
    simp only
    rw [Qa (by rw [Qcg];simp),Nat.gcd_zero_right,Qcg]
   ·have hm:=Nat.mod_lt a h0
    have e:Nat.gcd a b=Nat.gcd b (a%b):=by rw [Nat.gcd_comm,Nat.gcd_rec,Nat.gcd_comm]
    have hsm:sz (a%b)<=sz b:=Qu (by omega)
    rw [e]
    refine .step (λrec=>?_) (ih b (a%b) (by omega) hb (by omega))
    unfold z116.l0P
    simp only
    rw [bif_t ((Qhn b).2 h0),Qd0 h0 (by omega) hb]
    rfl
 unfold z116.F
 have e:z116.l0 (dg a,dg b)=some (dg (Nat.gcd a b),[]):=(key (b+1) a b (by omega) ha hb).lfp
 rw [e];rfl
abbrev rf (q:Rat):List Int×Bool×List Int:=(dg q.num.natAbs,neg q.num,dg q.den)
theorem Qdt {num:Int} {den:Nat} (h0:0<den) (hn:sz num.natAbs<=100000000) (hd:sz den<=100000000):z117.F (dg num.natAbs) (neg num) (dg den)=some (rf (mkRat num den)):=by
 have hg:0<Nat.gcd num.natAbs den:=Nat.gcd_pos_of_pos_right _ h0
 have hgs:sz (Nat.gcd num.natAbs den)<=sz den:=Qu (Nat.gcd_le_right _ h0)
 obtain ⟨q1,q2⟩:=Qh0 (Nat.gcd_dvd_left num.natAbs den) hg
 unfold z117.F
 rw [Q10 hn hd]
 simp only [Zb]
 show _=some (dg (mkRat num den).num.natAbs,neg (mkRat num den).num,dg (mkRat num den).den)
 rw [Rat.num_mkRat,Rat.den_mkRat,if_neg (by omega),if_neg (by omega),Nat.gcd_comm den]
 generalize Nat.gcd num.natAbs den=g at *
 rw [Qd0 hg (by omega) (by omega)]
 simp only [Zb]
 rw [Qd0 hg (by omega) (by omega)]
 simp only [Zb]
 rw [Y5 (z:=num/(g:Int)) q1.symm (by
  have hz:num/(g:Int)<0↔num<0:=q2
  by_cases h:num<0
  ·exact .inl ⟨Zt h,by omega⟩
  ·exact .inr ⟨Zf h,by omega⟩)]
 rfl
theorem Qja {num den:Int} (h0:den≠0) (hn:sz num.natAbs<=100000000) (hd:sz den.natAbs<=100000000):z118.F (dg num.natAbs) (neg num) (dg den.natAbs) (neg den)=some (rf (Rat.divInt num den)):=by
 unfold z118.F
 by_cases h:den<0
 ·have e:Rat.divInt num den=mkRat (-num) den.natAbs:=by
   have:den = -((den.natAbs:Nat):Int):=by omega
   conv=>lhs;rw [this]
   rw [Rat.divInt_neg',Rat.divInt_ofNat]
  rw [bif_t h,Qkc]
  simp only [Zb]
  rw [Qdt (by omega) (by rw [Int.natAbs_neg];exact hn) hd,e]
  rfl
 ·have e:Rat.divInt num den=mkRat num den.natAbs:=by
   have:den=((den.natAbs:Nat):Int):=by omega
   conv=>lhs;rw [this]
   rw [Rat.divInt_ofNat]
  rw [Qa h,Qdt (by omega) hn hd,e]
  rfl
theorem Yf {a b:Int} (ha:-9223372036854775808<a/\a<9223372036854775808) (hb:-9223372036854775808<b/\b<9223372036854775808) (h0:b≠0):z119.F a b=some (rf (Rat.divInt a b)):=by
 have s1:sz a.natAbs<=20:=sz_le (by omega)
 have s2:sz b.natAbs<=20:=sz_le (by omega)
 unfold z119.F
 rw [Wk ha]
 simp only [Zb]
 rw [Wk hb]
 simp only [Zb]
 rw [Qja h0 (by omega) (by omega)]
 rfl
theorem Qee {q r:Rat} (hs:sz q.num.natAbs+sz r.den<=800000000) (a:List Int) (b:List Int) (c:Bool):z122.F (dg q.num.natAbs) (neg q.num) a b c (dg r.den)=some (dg (q.num*r.den).natAbs,neg (q.num*r.den)):=by
 have l1:=Qp q.num.natAbs
 have l2:=Qp r.den
 have l3:(dg (r.den:Int).natAbs).length=(dg r.den).length:=rfl
 unfold z122.F
 rw [Y5 (z:=(r.den:Int)) (n:=r.den) (by omega) (.inr ⟨rfl,by omega⟩)]
 simp only [Zb]
 rw [Qhi (by omega)]
 rfl
theorem Qxn {q r:Rat} (hs:sz q.num.natAbs+sz r.den<=300000000) (hs':sz r.num.natAbs+sz q.den<=300000000):z123.F (rf q).1 (rf q).2.1 (rf q).2.2 (rf r).1 (rf r).2.1 (rf r).2.2=some (cmpI (q.num*r.den) (r.num*q.den)):=by
 have m1:=Q7 q.num.natAbs (r.den:Int).natAbs
 have m2:=Q7 r.num.natAbs (q.den:Int).natAbs
 rw [<-Int.natAbs_mul] at m1 m2
 have e1:sz (r.den:Int).natAbs=sz r.den:=rfl
 have e2:sz (q.den:Int).natAbs=sz q.den:=rfl
 have l1:=Qp (q.num*r.den).natAbs
 have l2:=Qp (r.num*q.den).natAbs
 unfold z123.F
 rw [Qee (by omega)]
 simp only [Zb]
 rw [Qee (by omega)]
 simp only [Zb]
 rw [Qj2 (by omega)]
 rfl
theorem Qhd {q r:Rat} (h0:r≠0) (hs:sz q.num.natAbs+sz r.den<=90000000) (hs':sz r.num.natAbs+sz q.den<=90000000):z124.F (rf q).1 (rf q).2.1 (rf q).2.2 (rf r).1 (rf r).2.1 (rf r).2.2=some (rf (q/r)):=by
 have m1:=Q7 q.num.natAbs (r.den:Int).natAbs
 have m2:=Q7 r.num.natAbs (q.den:Int).natAbs
 rw [<-Int.natAbs_mul] at m1 m2
 have e1:sz (r.den:Int).natAbs=sz r.den:=rfl
 have e2:sz (q.den:Int).natAbs=sz q.den:=rfl
 have l1:=Qp r.num.natAbs
 have l2:=Qp (q.den:Int).natAbs
 have hr:r.num≠0:=λh=>h0 (Rat.num_eq_zero.1 h)
 have hqd:=q.den_nz
 unfold z124.F
 rw [Qee (by omega)]
 simp only [Zb]
 rw [Y5 (z:=(q.den:Int)) (n:=q.den) (by omega) (.inr ⟨rfl,by omega⟩)]
 simp only [Zb]
 rw [Qhi (by omega)]
 simp only [Zb]
 rw [Qja (Int.mul_ne_zero hr (by omega)) (by omega) (by omega),Qkh,Int.mul_comm (q.den:Int)]
 rfl
theorem Y4 {s:List UInt8} {i:Nat} (h:i<s.length):s.getD i 0=s[i]:=by simp [List.getD,h]
theorem Qqn {s:List UInt8} (hs:s.length<=1000000000):∀(f i:Nat),i+f=s.length ->
  ∃o,Runs (λrec x=>z103.l0b4P s rec some x) (i:Int) o/\(match o with | .inl _=>true | .inr q=>q)=digs (s.drop i)
 |
  0,i,hf=>by
  refine ⟨.inl (i:Int),.done λrec=>?_,?_⟩
  ·unfold z103.l0b4P
   rw [Qa (by omega)]
  ·rw [List.drop_eq_nil_of_le (by omega)];rfl
 |
  f+1,i,hf=>by
  have hi:i<s.length:=by omega
  rw [List.drop_eq_getElem_cons hi]
  have e:digs (s[i]::s.drop (i+1))=(isD s[i]&&digs (s.drop (i+1))):=rfl
  rw [e]
  by_cases h1:(s[i].toNat:Int)<48
  ·refine ⟨.inr false,.done λrec=>?_,?_⟩
   ·unfold z103.l0b4P
    rw [bif_t (by omega),if_pos (by omega),Zi,Y4 hi,bif_t h1]
   ·have:isD s[i]=false:=by unfold isD;rw [Zf (show ¬48<=s[i].toNat by omega)];rfl
    rw [this];rfl
  ·by_cases h2:(s[i].toNat:Int)>57
   ·refine ⟨.inr false,.done λrec=>?_,?_⟩
    ·unfold z103.l0b4P
     rw [bif_t (by omega),if_pos (by omega),Zi,Y4 hi,Qa h1,if_pos (by omega),bif_t h2]
    ·have:isD s[i]=false:=by unfold isD;rw [Zf (show ¬s[i].toNat<=57 by omega)];simp
     rw [this];rfl
   ·obtain ⟨o,r,ho⟩:=Qqn hs f (i+1) (by omega)
    refine ⟨o,.step (λrec=>?_) r,?_⟩
    ·unfold z103.l0b4P
     rw [bif_t (by omega),if_pos (by omega),Zi,Y4 hi,Qa h1,if_pos (by omega),Qa h2,Qc (by omega) (by omega)]
     rfl
    ·have:isD s[i]=true:=by unfold isD;rw [Zt (show 48<=s[i].toNat by omega),Zt (show s[i].toNat<=57 by omega)];rfl
     rw [ho,this];rfl
theorem Q0n {s:List UInt8} (hs:s.length<=1000000000):z103.F s=some (numOK s):=by
 obtain ⟨o,r,ho⟩:=Qqn hs s.length 0 (by omega)
 have e:z103.l0b4 s 0=some o:=r.lfp
 rw [List.drop_zero] at ho
 unfold z103.F numOK
 rw [e]
 simp only [Zb]
 by_cases h0:s=[]
 ·subst h0;rfl
 ·have hpos:=List.length_pos_iff.2 h0
  rw [Qa (by omega),Zf h0]
  by_cases h1:1<s.length
  ·rw [bif_t (by omega),if_pos (by omega),Zt h1]
   by_cases h2:(s.getD 0 0).toNat=48
   ·rw [bif_t (by omega),Zt h2];simp
   ·rw [Qa (by omega),Zf h2]
    simp only [Zo,Bool.true_and,Bool.and_true,Bool.and_false]
    cases o with
    |inl z=>exact congrArg some ho
    |inr q=>exact congrArg some ho
  ·rw [Qa (by omega),Zf h1]
   simp only [Zo,Bool.true_and,Bool.and_true,Bool.false_and]
   cases o with
   |inl z=>exact congrArg some ho
   |inr q=>exact congrArg some ho
theorem Qxp {s:List UInt8} (hs:Qv s) {b:UInt8} {t:List UInt8} (e:s=b::t) (hb:b.toNat≠48):0<tv 0 s:=by
 subst e
 have h1:=hs b (by simp)
 unfold digit at h1
 have h2:=Jh (s:=t) λx hx=>hs x (by simp [hx])
 have e:tv 0 (b::t)=((b.toNat:Int)-48)*(10^t.length:Nat)+tv 0 t:=by
  show tv (10*0+(b.toNat:Int)-48) t=_
  rw [Qc8];simp
 have h3:0<10^t.length:=Nat.pow_pos (by decide)
 have h4:1*((10^t.length:Nat):Int)<=((b.toNat:Int)-48)*(10^t.length:Nat):=Int.mul_le_mul_of_nonneg_right (by omega) (by omega)
 rw [e];omega
theorem Ql0 {s:List UInt8} (h:numOK s=true):Qv s/\s≠[]/\(1<s.length->(s.getD 0 0).toNat≠48):=by
 unfold numOK at h
 simp only [Bool.and_eq_true,Bool.not_eq_true',decide_eq_false_iff_not,Bool.and_eq_false_iff] at h
 exact ⟨Je.1 h.1.2,h.1.1,λh1 h2=>by rcases h.2 with h3|h3<;>omega⟩
theorem Qur {s:List UInt8} (h:numOK s=true):(tv 0 s).toNat=0↔s=[48]:=by
 obtain ⟨h1,h2,h3⟩:=Ql0 h
 constructor
 ·intro h0
  cases s with
  |nil=>exact absurd rfl h2
  |
   cons b t=>
   by_cases hb:b.toNat=48
   ·have:t=[]:=by
     cases t with
     |nil=>rfl
     |cons c t'=>exact absurd hb (h3 (by simp))
    subst this
    rw [show b=48 from UInt8.toNat_inj.1 hb]
   ·have:=Qxp h1 rfl hb;omega
 ·rintro rfl;rfl
abbrev wr4 (w:Int×Int):List Int×Bool×Int:=(dg w.1.natAbs,neg w.1,w.2)
theorem Qyy (s:List UInt8) (hs:s.length<=1000000):z104.F s=some (wr4 (mWhole s)):=by
 have key:∀(plain:List UInt8) (below:Bool),plain.length<=s.length->cutNeg s=(plain,below)->(below=true->s.length=plain.length+1/\s.drop 1=plain/\(s.getD 0 0).toNat=45)->(below=false->s=plain) ->
   z104.j3 plain (dg (Int.natAbs 0),neg 0) s=some (wr4 (mWhole s)):=λplain below hp hc hb hb'=>by
  have z0:∀e:Int,some (dg (Int.natAbs 0),neg 0,e)=some (wr4 (0,e)):=λe=>rfl
  unfold z104.j3 mWhole
  rw [hc]
  simp only
  by_cases h1:4096<plain.length
  ·have hm:mDigits plain=(0,7):=by unfold mDigits;rw [if_pos h1]
   rw [bif_t (by omega),hm,if_pos (by decide)]
  ·rw [Qa (by omega),Q0n (by omega)]
   simp only [Zb]
   cases hn:numOK plain with
   |
    false=>
    have hm:mDigits plain=(0,5):=by unfold mDigits;rw [if_neg h1,hn];rfl
    simp only [Zo,Zd]
    rw [hm,if_pos (by decide)]
   |
    true=>
    obtain ⟨d1,d2,d3⟩:=Ql0 hn
    have hm:mDigits plain=((tv 0 plain).toNat,0):=by unfold mDigits;rw [if_neg h1,hn];rfl
    have hz:=Qur hn
    obtain ⟨v,hv⟩:∃v:Nat,tv 0 plain=(v:Int):=⟨_,(Int.toNat_of_nonneg (Jh d1).1).symm⟩
    rw [hv,Zi] at hm hz
    simp only [Zn,Zc]
    rw [hm,if_neg (by simp)]
    simp only
    have hread:z102.F s=some (dg v,(below&&decide (0<v))):=by
     unfold z102.F
     have hpos:=List.length_pos_iff.2 d2
     rw [if_pos (by omega)]
     cases below with
     |
      true=>
      obtain ⟨g1,g2,g3⟩:=hb rfl
      rw [bif_t (by omega),if_pos (by omega),g2,Qfu d1 (by omega),hv]
      simp only [Zb]
      rw [Qem];rfl
     |
      false=>
      have g:=hb' rfl
      have hne:¬(((s.getD 0 0).toNat:Int)=45):=by
       rw [g,Y4 hpos]
       have:=d1 plain[0] (List.getElem_mem hpos)
       unfold digit at this;omega
      rw [Qa hne,g,Qfu d1 (by omega),hv]
      simp only [Zb]
      rw [Qem];rfl
    by_cases h48:plain=[48]
    ·have h0:=hz.2 h48
     rw [bif_t h48]
     cases below with
     |
      true=>
      obtain ⟨g1,g2,g3⟩:=hb rfl
      rw [bif_t (by rw [h48] at g1;simp at g1;omega),h0]
      rfl
     |
      false=>
      have g:=hb' rfl
      rw [Qa (by rw [g,h48];simp),hread,h0]
      rfl
    ·have h0:v≠0:=λhh=>h48 (hz.1 hh)
     rw [Qa h48,hread]
     simp only [Zb]
     have e:(below&&decide (v=0))=false:=by rw [Zf h0,Bool.and_false]
     rw [e]
     simp only [Bool.false_eq_true,if_false]
     cases below with
     |
      true=>
      have e1:(true&&decide (0<v))=neg (-(v:Int)):=by rw [Bool.true_and];exact decide_eq_decide.2 (by omega)
      rw [e1]
      show _=some (dg (-(v:Int)).natAbs,neg (-(v:Int)),0)
      rw [Int.natAbs_neg];rfl
     |
      false=>
      have e1:(false&&decide (0<v))=neg (v:Int):=by rw [Bool.false_and];symm;exact Zf (by omega)
      rw [e1];rfl
 unfold z104.F
 rw [Wk (by omega)]
 simp only [Zb]
 cases s with
 |
  nil=>
  rw [Qa (by simp)]
  exact key [] false (by simp) rfl (λh=>by simp at h) (λ_=>rfl)
 |
  cons b t=>
  rw [bif_t (by simp),if_pos (by simp)]
  by_cases h:b=45
  ·subst h
   rw [bif_t (by rfl),if_pos (by simp;omega)]
   exact key t true (by simp) rfl (λ_=>⟨by simp,rfl,rfl⟩) (λh=>by simp at h)
  ·have hb:¬((((b::t).getD 0 0).toNat:Int)=45):=λhh=>h (UInt8.toNat_inj.1 (by have e:(b::t).getD 0 0=b:=rfl;rw [e] at hh;show b.toNat=45;omega))
   rw [Qa hb]
   exact key (b::t) false (by simp) (by unfold cutNeg;simp [h]) (λh=>by simp at h) (λ_=>rfl)
theorem Qrl (t:Nat) (ht:t<=1000000):∀(f i:Nat),i+f=t->Runs (λrec x=>z105.l0P (t:Int) rec some x) ((49:UInt8)::List.replicate i 48,(i:Int)) ((49:UInt8)::List.replicate t 48,(t:Int))
 |
  0,i,hf=>by
  have:i=t:=by omega
  subst this
  refine .done λrec=>?_
  unfold z105.l0P
  simp only
  rw [Qa (by omega)]
 |
  f+1,i,hf=>by
  refine .step (λrec=>?_) (Qrl t ht f (i+1) (by omega))
  unfold z105.l0P
  simp only
  rw [bif_t (by omega),if_pos (by simp;omega),Qc (by omega) (by omega),List.replicate_succ']
  rfl
theorem Ql2:∀(t:Nat) (a:Int),tv a (List.replicate t 48)=a*(10^t:Nat)
 |0,a=>by simp [tv]
 |
  t+1,a=>by
  rw [List.replicate_succ]
  show tv (10*a+((48:UInt8).toNat:Int)-48) (List.replicate t 48)=_
  rw [Ql2 t,Nat.pow_succ,Int.natCast_mul]
  have:((48:UInt8).toNat:Int)=48:=rfl
  rw [this]
  generalize ((10^t:Nat):Int)=p
  grind
theorem Qos {t:Nat} (ht:t<=1000000):z105.F (t:Int)=some (dg (10^t)):=by
 have e:z105.l0 (t:Int) ([49],(0:Int))=some ((49:UInt8)::List.replicate t 48,(t:Int)):=(Qrl t ht t 0 (by omega)).lfp
 have hd:Qv ((49:UInt8)::List.replicate t 48):=λb hb=>by
  rcases List.mem_cons.1 hb with h|h
  ·subst h;unfold digit;decide
  ·rw [List.eq_of_mem_replicate h];unfold digit;decide
 have hv:tv 0 ((49:UInt8)::List.replicate t 48)=((10^t:Nat):Int):=by
  show tv 1 (List.replicate t 48)=_
  rw [Ql2];simp
 unfold z105.F
 rw [e]
 simp only [Zb]
 rw [Qfu hd (by simp;omega),hv]
 rfl
theorem Qeu (s:List UInt8) (hs:s.length<=1000000):z114.F s=some (wr4 (mMoney s)):=by
 have hz:=Qnp s
 unfold z114.F mMoney
 rw [Wk (by omega)]
 simp only [Zb]
 rw [Qyy s hs]
 simp only [Zb,wr4]
 generalize mWhole s=w at *
 by_cases h:w.2=0
 ·rw [Zt h,if_neg (by omega)]
  simp only [Zn,Zc]
  have h30:=Qos (t:=30) (by decide)
  rw [show ((30:Nat):Int)=30 from rfl] at h30
  rw [h30]
  simp only [Zb]
  rw [Y5 (z:=10^30) (by decide) (.inr ⟨rfl,by decide⟩)]
  simp only [Zb]
  have l1:=Qp w.1.natAbs
  have l2:(dg (Int.natAbs (10^30))).length<=31:=Nat.le_trans (Qp _) (sz_le (by decide))
  rw [Qj2 (by omega)]
  simp only [Zb]
  by_cases h1:w.1<0
  ·rw [bif_t h1,if_pos (.inl h1)]
  ·rw [Qa h1]
   by_cases h2:10^30<w.1
   ·rw [bif_t (Wh.2 h2),if_pos (.inr h2)]
   ·rw [Qa (λh=>h2 (Wh.1 h)),if_neg (by omega)]
 ·rw [Zf h,if_pos h];rfl
def scan:List UInt8->List UInt8->Int->Int->Bool->Option (List UInt8×Int×Int×Bool)
 |[],all,ah,bh,z=>some (all,ah,bh,z)
 |
  b::t,all,ah,bh,z=>
  if b.toNat=46/\bh<0 then scan t all ah 0 z
  else if isD b=false then none
  else if bh<0 then scan t (all++[b]) (ah+1) bh (z&&decide (b.toNat=48))
  else scan t (all++[b]) ah (bh+1) (z&&decide (b.toNat=48))
def Qec (n:Int):Option (List UInt8×Int×Int×Bool)->(Int×List UInt8×Int×Int×Bool)⊕Int
 |none=>.inr 5
 |some r=>.inl (n,r.1,r.2.1,r.2.2.1,r.2.2.2)
theorem Qsv {s:List UInt8} (hs:s.length<=1000000) {i:Nat} (hi:i<s.length) (all:List UInt8) (ha:all.length<=1000000) (z:Bool) (x y:Int) {R:Type} (rec:(Int×List UInt8×Int×Int×Bool)->Option R) (done:((Int×List UInt8×Int×Int×Bool)⊕Int)->Option R) :
  z120.j11016a rec done z (i:Int) s all x y=rec (((i+1:Nat):Int),all++[s[i]],x,y,(z&&decide (s[i].toNat=48))):=by
 have e1:wr .i64 ((i:Int)+1)=((i+1:Nat):Int):=by rw [Qc (by omega) (by omega)];rfl
 have e2:(s.drop i).take (i+1-i)=[s[i]]:=by
  rw [show i+1-i=1 by omega,List.drop_eq_getElem_cons hi];rfl
 have e3:decide ((s[i].toNat:Int)=48)=decide (s[i].toNat=48):=decide_eq_decide.2 (by omega)
 unfold z120.j11016a
 simp only [e1,Zi,e2,Y4 hi,e3]
 cases z with
 |true=>simp only [Zd,Bool.true_and];rw [if_pos (by omega),if_pos (by omega),if_pos (by simp;omega)]
 |false=>simp only [Zc,Bool.false_and];rw [if_pos (by omega),if_pos (by simp;omega)]
theorem Qfv {s:List UInt8} (hs:s.length<=1000000):∀(f i:Nat) (all:List UInt8) (ah bh:Int) (z:Bool),i+f=s.length->all.length<=i->(0<=ah/\ah<=i)->(-1<=bh/\bh<=i) ->
  Runs (λrec x=>z120.l0b10P s rec some x) ((i:Int),all,ah,bh,z) (Qec (s.length:Int) (scan (s.drop i) all ah bh z))
 |
  0,i,all,ah,bh,z,hf,_,_,_=>by
  refine .done λrec=>?_
  unfold z120.l0b10P
  simp only
  rw [Qa (by omega),List.drop_eq_nil_of_le (by omega),show (i:Int)=(s.length:Int) by omega];rfl
 |
  f+1,i,all,ah,bh,z,hf,ha,hah,hbh=>by
  have hi:i<s.length:=by omega
  have c1:(0:Int)<=(i:Int)/\(i:Int)<(s.length:Int):=by omega
  have e1:wr .i64 ((i:Int)+1)=((i+1:Nat):Int):=by rw [Qc (by omega) (by omega)];rfl
  rw [List.drop_eq_getElem_cons hi]
  by_cases hdot:s[i].toNat=46/\bh<0
  ·have ih:=Qfv hs f (i+1) all ah 0 z (by omega) (by omega) (by omega) (by omega)
   have es:scan (s[i]::s.drop (i+1)) all ah bh z=scan (s.drop (i+1)) all ah 0 z:=by rw [scan];rw [if_pos hdot]
   rw [es]
   refine .step (λrec=>?_) ih
   unfold z120.l0b10P
   simp only
   rw [bif_t (by omega),if_pos c1,Zi,Y4 hi,bif_t (by omega),bif_t hdot.2,e1]
  ·by_cases hd:isD s[i]=true
   ·have hd':48<=s[i].toNat/\s[i].toNat<=57:=by unfold isD at hd;simpa using hd
    have hnd:¬((s[i].toNat:Int)=46):=by omega
    by_cases hb:bh<0
    ·have ih:=Qfv hs f (i+1) (all++[s[i]]) (ah+1) bh (z&&decide (s[i].toNat=48)) (by omega) (by simp;omega) (by omega) (by omega)
     have es:scan (s[i]::s.drop (i+1)) all ah bh z=scan (s.drop (i+1)) (all++[s[i]]) (ah+1) bh (z&&decide (s[i].toNat=48)):=by rw [scan];rw [if_neg hdot,if_neg (by rw [hd];simp),if_pos hb]
     rw [es]
     refine .step (λrec=>?_) ih
     unfold z120.l0b10P
     simp only
     rw [bif_t (by omega),if_pos c1,Zi,Y4 hi,Qa hnd,if_pos c1,Qa (by omega),if_pos c1,Qa (by omega),bif_t hb,Qc (n:=ah+1) (by omega) (by omega)]
     exact Qsv hs hi all (by omega) z _ _ rec some
    ·have ih:=Qfv hs f (i+1) (all++[s[i]]) ah (bh+1) (z&&decide (s[i].toNat=48)) (by omega) (by simp;omega) (by omega) (by omega)
     have es:scan (s[i]::s.drop (i+1)) all ah bh z=scan (s.drop (i+1)) (all++[s[i]]) ah (bh+1) (z&&decide (s[i].toNat=48)):=by rw [scan];rw [if_neg hdot,if_neg (by rw [hd];simp),if_neg hb]
     rw [es]
     refine .step (λrec=>?_) ih
     unfold z120.l0b10P
     simp only
     rw [bif_t (by omega),if_pos c1,Zi,Y4 hi,Qa hnd,if_pos c1,Qa (by omega),if_pos c1,Qa (by omega),Qa hb,Qc (n:=bh+1) (by omega) (by omega)]
     exact Qsv hs hi all (by omega) z _ _ rec some
   ·have hd2:isD s[i]=false:=by simpa using hd
    have hd':s[i].toNat<48\/57<s[i].toNat:=by
     unfold isD at hd2
     simp at hd2
     omega
    have es:scan (s[i]::s.drop (i+1)) all ah bh z=none:=by rw [scan];rw [if_neg hdot,if_pos hd2]
    rw [es]
    refine .done λrec=>?_
    unfold z120.l0b10P
    simp only
    rw [bif_t (by omega),if_pos c1,Zi,Y4 hi]
    by_cases h46:(s[i].toNat:Int)=46
    ·rw [bif_t h46,Qa (by omega),if_pos c1,bif_t (by omega)];rfl
    ·rw [Qa h46,if_pos c1]
     by_cases h48:(s[i].toNat:Int)<48
     ·rw [bif_t h48];rfl
     ·rw [Qa h48,if_pos c1,bif_t (by omega)];rfl
theorem Qkv (b:UInt8) (t:List UInt8):zeros (b::t)=(decide (b.toNat=48)&&zeros t):=by
 show ((b == 48)&&zeros t)=_
 rw [Qml];rfl
theorem Qlt:∀(t all:List UInt8) (ah bh:Int) (z:Bool),0<=bh->scan t all ah bh z=if digs t then some (all++t,ah,bh+t.length,z&&zeros t) else none
 |[],all,ah,bh,z,h=>by simp [scan,digs,zeros]
 |
  b::t,all,ah,bh,z,h=>by
  have e:digs (b::t)=(isD b&&digs t):=rfl
  rw [scan,if_neg (by omega),e,Qkv]
  by_cases hd:isD b=true
  ·rw [if_neg (by rw [hd];simp),if_neg (by omega),Qlt t _ _ _ _ (by omega),hd,Bool.true_and,Bool.and_assoc,List.append_assoc]
   congr 3
   simp;omega
  ·have hd2:isD b=false:=by simpa using hd
   rw [if_pos hd2,hd2];rfl
theorem Qq2:∀(t all:List UInt8) (ah:Int) (z:Bool),scan t all ah (-1) z =
  if digs (cutDot t).1 then (match (cutDot t).2 with
   |none=>some (all++(cutDot t).1,ah+(cutDot t).1.length,(-1:Int),z&&zeros (cutDot t).1)
   |some b=>if digs b then some (all++(cutDot t).1++b,ah+(cutDot t).1.length,(b.length:Int),z&&zeros (cutDot t).1&&zeros b) else none) else none
 |[],all,ah,z=>by simp [scan,cutDot,digs,zeros]
 |
  b::t,all,ah,z=>by
  by_cases h46:b=46
  ·subst h46
   rw [scan,if_pos ⟨rfl,by decide⟩,Qlt _ _ _ _ _ (Int.le_refl 0)]
   have:cutDot (46::t)=([],some t):=by rw [cutDot,if_pos rfl]
   rw [this]
   simp [digs,zeros]
  ·have hc:cutDot (b::t)=(b::(cutDot t).1,(cutDot t).2):=by rw [cutDot,if_neg h46]
   have h46':¬(b.toNat=46/\(-1:Int)<0):=λhh=>h46 (UInt8.toNat_inj.1 hh.1)
   have e:∀x,digs (b::x)=(isD b&&digs x):=λx=>rfl
   rw [scan,if_neg h46',hc,e]
   by_cases hd:isD b=true
   ·rw [if_neg (by rw [hd];simp),if_pos (by decide),Qq2 t,hd,Bool.true_and]
    split
    ·cases (cutDot t).2 with
     |
      none=>
      simp only [Qkv,List.append_assoc,List.singleton_append,Bool.and_assoc,List.length_cons]
      congr 3
      omega
     |
      some c=>
      simp only [Qkv,List.append_assoc,List.singleton_append,Bool.and_assoc,List.length_cons,List.cons_append]
      split
      ·congr 3;omega
      ·rfl
    ·rfl
   ·have hd2:isD b=false:=by simpa using hd
    rw [if_pos hd2,hd2];rfl
abbrev decD (m:Int×Nat×Int):List Int×Bool×Int×Int:=(dg m.1.natAbs,neg m.1,(m.2.1:Int),m.2.2)
theorem decD0 (e:Int):decD (0,0,e)=([],false,0,e):=by unfold decD;simp [Qcg]
theorem Qi8 {s t:List UInt8} {below:Bool} {i:Nat} (hs:s.length<=4096) (hi:i<=1) (hil:i<=s.length) (ht:s.drop i=t) :
  z120.j3 s (i:Int) below=some (decD (Jk below (cutDot t).1 (cutDot t).2)):=by
 have r:=Qfv (s:=s) (by omega) (s.length-i) i [] 0 (-1) true (by omega) (by simp) (by omega) (by omega)
 have e:z120.l0b10 s ((i:Int),[],(0:Int),(-1:Int),true)=some (Qec (s.length:Int) (scan t [] 0 (-1) true)):=by rw [<-ht];exact r.lfp
 have htl:t.length<=4096:=by rw [<-ht,List.length_drop];omega
 unfold z120.j3
 rw [e,Qq2]
 simp only [Zb,List.nil_append,Int.zero_add,Bool.true_and]
 have fin:∀(all:List UInt8) (n ah bh:Int) (z:Bool) (sc:Nat),Qv all->all.length<=4096->(sc:Int)=max bh 0 ->
   z120.j7 (n,all,ah,bh,z) below=some (decD (if 64<bh then (0,0,10) else (if below then -tv 0 all else tv 0 all,sc,0))):=λall n ah bh z sc hd hl hsc=>by
  unfold z120.j7
  simp only
  by_cases h64:64<bh
  ·rw [bif_t h64,if_pos h64,decD0]
  ·obtain ⟨v,hv⟩:∃v:Nat,tv 0 all=(v:Int):=⟨_,(Int.toNat_of_nonneg (Jh hd).1).symm⟩
   rw [Qa h64,if_neg h64,Qfu hd (by omega),hv]
   simp only [Zb,Zi]
   have em:(if (0:Int)>bh then (0:Int) else bh)=(sc:Int):=by split<;>omega
   rw [em]
   cases below with
   |true=>rw [Y5 (z:=-(v:Int)) (by omega) (.inl ⟨rfl,by omega⟩)];rfl
   |false=>rw [Y5 (z:=(v:Int)) (by omega) (.inr ⟨rfl,by omega⟩)];rfl
 unfold Jk plainB
 cases hda:digs (cutDot t).1 with
 |
  false=>
  simp only [Bool.false_eq_true,if_false,Bool.and_false,Zo,Bool.true_or,if_true]
  rw [decD0];rfl
 |
  true=>
  have hdd:=Je.1 hda
  simp only [if_true,Bool.and_true,Bool.not_not]
  cases ho:(cutDot t).2 with
  |
   none=>
   have hct:=Qgg ho
   rw [hct] at hdd ⊢
   simp only [Qec,Option.isSome_none,Bool.false_and,Bool.or_false,Option.getD_none,List.append_nil,List.length_nil]
   by_cases h0:t=[]
   ·subst h0
    rw [bif_t (p:=((([]:List UInt8).length:Nat):Int)=0) rfl,Zt (p:=([]:List UInt8)=[]) rfl]
    simp only [Bool.true_or,if_true]
    rw [decD0]
   ·have hpos:=List.length_pos_iff.2 h0
    rw [Qa (by omega),Qa (by omega),Zf h0]
    simp only [Bool.false_or]
    have hfin:=fin t (s.length:Int) (t.length:Int) (-1) (zeros t) 0 hdd htl (by omega)
    rw [if_neg (by decide)] at hfin
    have rest:(bif below then bif zeros t then some ([],false,0,5) else z120.j7 ((s.length:Int),t,(t.length:Int),-1,zeros t) below else z120.j7 ((s.length:Int),t,(t.length:Int),-1,zeros t) below)=some (decD (if (below&&zeros t)=true then (0,0,5) else (if below then -tv 0 t else tv 0 t,0,0))):=by
     rw [hfin]
     cases below<;>cases zeros t<;>first|rfl|(simp only [Zd,Bool.true_and,if_true];rw [decD0])
    by_cases h1:1<t.length
    ·rw [bif_t (by omega),if_pos (by omega),Zt h1]
     by_cases h48:(t.getD 0 0).toNat=48
     ·rw [bif_t (by omega),Zt h48]
      simp only [Bool.true_and,if_true]
      rw [decD0]
     ·rw [Qa (by omega),Zf h48]
      simp only [Bool.and_false,Bool.false_eq_true,if_false]
      exact rest
    ·rw [Qa (by omega),Zf h1]
     simp only [Bool.false_and,Bool.false_eq_true,if_false]
     exact rest
  |
   some b=>
   have hct:=Qg6 ho
   generalize (cutDot t).1=a at *
   have hlen:t.length=a.length+(b.length+1):=by rw [hct];simp
   simp only [Option.isSome_some,Bool.true_and,Option.getD_some]
   cases hdb:digs b with
   |
    false=>
    simp only [Qec,Bool.false_eq_true,if_false,Bool.and_false,Zo,Bool.or_true,Bool.true_or,if_true]
    rw [decD0]
   |
    true=>
    have hdd2:=Je.1 hdb
    simp only [Qec,if_true,Bool.and_true,Bool.not_not]
    have hdall:Qv (a++b):=λx hx=>(List.mem_append.1 hx).elim (hdd x) (hdd2 x)
    by_cases h0:a=[]
    ·subst h0
     rw [bif_t (p:=((([]:List UInt8).length:Nat):Int)=0) rfl,Zt (p:=([]:List UInt8)=[]) rfl]
     simp only [Bool.true_or,if_true]
     rw [decD0]
    ·have hpos:=List.length_pos_iff.2 h0
     rw [Qa (by omega),Zf h0]
     by_cases hb0:b=[]
     ·subst hb0
      rw [bif_t (p:=((([]:List UInt8).length:Nat):Int)=0) rfl,Zt (p:=([]:List UInt8)=[]) rfl]
      simp only [Bool.true_or,Bool.or_true,if_true]
      rw [decD0]
     ·have hbpos:=List.length_pos_iff.2 hb0
      rw [Qa (by omega),Zf hb0]
      simp only [Bool.false_or]
      have hz:zeros (a++b)=(zeros a&&zeros b):=by simp [zeros]
      have hg:(a++b).getD 0 0=a.getD 0 0:=by
       rw [Y4 (by simp;omega),Y4 hpos,List.getElem_append_left hpos]
      have hfin:=fin (a++b) (s.length:Int) (a.length:Int) (b.length:Int) (zeros a&&zeros b) b.length hdall (by rw [List.length_append];omega) (by omega)
      have e64:(64<(b.length:Int))=(64<b.length):=by apply propext;omega
      simp only [e64] at hfin
      have rest:(bif below then bif (zeros a&&zeros b) then some ([],false,0,5) else z120.j7 ((s.length:Int),a++b,(a.length:Int),(b.length:Int),(zeros a&&zeros b)) below else z120.j7 ((s.length:Int),a++b,(a.length:Int),(b.length:Int),(zeros a&&zeros b)) below)=some (decD (if (below&&zeros (a++b))=true then (0,0,5) else if 64<b.length then (0,0,10) else (if below then -tv 0 (a++b) else tv 0 (a++b),b.length,0))):=by
       rw [hfin,hz]
       cases below<;>cases (zeros a&&zeros b)<;>first|rfl|(simp only [Zd,Bool.true_and,if_true];rw [decD0])
      rw [hg]
      by_cases h1:1<a.length
      ·rw [bif_t (by omega),if_pos (by rw [List.length_append];omega),Zt h1]
       by_cases h48:(a.getD 0 0).toNat=48
       ·rw [bif_t (by omega),Zt h48]
        simp only [Bool.true_and,if_true]
        rw [decD0]
       ·rw [Qa (by omega),Zf h48]
        simp only [Bool.and_false,Bool.false_eq_true,if_false]
        exact rest
      ·rw [Qa (by omega),Zf h1]
       simp only [Bool.false_and,Bool.false_eq_true,if_false]
       exact rest
theorem Qul {s:List UInt8} (hs:s.length<=4096):z120.F s=some (decD (mDec s)):=by
 have h4:¬4096<s.length:=by omega
 unfold z120.F mDec
 rw [if_neg h4]
 cases s with
 |
  nil=>
  rw [Qa (by simp)]
  exact Qi8 (s:=[]) (t:=[]) (below:=false) (i:=0) (by simp) (by omega) (by simp) rfl
 |
  cons b t=>
  rw [bif_t (by simp),if_pos (by simp)]
  by_cases h:b=45
  ·subst h
   rw [bif_t (by rfl)]
   exact Qi8 (s:=45::t) (t:=t) (below:=true) (i:=1) hs (by omega) (by simp) rfl
  ·have hb:¬((((b::t).getD 0 0).toNat:Int)=45):=λhh=>h (UInt8.toNat_inj.1 (by have e:(b::t).getD 0 0=b:=rfl;rw [e] at hh;show b.toNat=45;omega))
   rw [Qa hb]
   have hc:cutNeg (b::t)=(b::t,false):=by unfold cutNeg;simp [h]
   rw [hc]
   exact Qi8 (s:=b::t) (t:=b::t) (below:=false) (i:=0) hs (by omega) (by simp) rfl
theorem Qzs {c:Int} {s:Nat} (hs:s<=4096) (hc:sz c.natAbs<=100000000):z121.F (dg c.natAbs) (neg c) (s:Int)=some (rf (mkRat c (10^s))):=by
 have hp:0<10^s:=Nat.pow_pos (by decide)
 have l:=Qdh s
 unfold z121.F
 rw [Qos (by omega)]
 simp only [Zb]
 rw [Qdt hp hc (by omega)]
 rfl
theorem Qy9 {n:Int} {d:Nat} (hd:0<d) (k:Int):k*(mkRat n d).den<(mkRat n d).num↔k*d<n:=by
 have hg:0<Nat.gcd d n.natAbs:=Nat.gcd_pos_of_pos_left _ hd
 have e1:(mkRat n d).num*(Nat.gcd d n.natAbs:Nat)=n:=by
  rw [Rat.num_mkRat,if_neg (by omega)]
  exact Int.ediv_mul_cancel (Int.ofNat_dvd_left.2 (Nat.gcd_dvd_right _ _))
 have e2:((mkRat n d).den:Int)*(Nat.gcd d n.natAbs:Nat)=d:=by
  rw [Rat.den_mkRat,if_neg (by omega)]
  exact_mod_cast Nat.div_mul_cancel (Nat.gcd_dvd_left _ _)
 generalize Nat.gcd d n.natAbs=g at *
 have hg':(0:Int)<(g:Int):=by omega
 have e3:k*(d:Int)=k*(mkRat n d).den*g:=by rw [<-e2,Int.mul_assoc]
 constructor
 ·intro h
  have:=Int.mul_lt_mul_of_pos_right h hg'
  rw [e1] at this
  rw [e3];exact this
 ·intro h
  refine Int.lt_of_mul_lt_mul_right ?_ (Int.le_of_lt hg')
  rw [e1,<-e3];exact h
theorem Qkz (n:Int):Rat.divInt n 1=(n:Rat):=by
 rw [show (1:Int)=((1:Nat):Int) from rfl,Rat.divInt_ofNat,Rat.mkRat_eq_div]
 have:(n:Rat)/((1:Nat):Rat)=(n:Rat):=by
  rw [Rat.div_def]
  have:(((1:Nat):Rat))⁻¹=1:=by decide +kernel
  rw [this,Rat.mul_one]
 exact this
theorem Qe7 (s:List UInt8):z125.F s=some ((rf (mRate s).1).1,(rf (mRate s).1).2.1,(rf (mRate s).1).2.2,(mRate s).2):=by
 have s0:z119.F 0 1=some (rf 0):=by
  rw [Yf (by omega) (by omega) (by omega),Qkz];rfl
 have s1000:z119.F 1000 1=some (rf 1000):=by
  rw [Yf (by omega) (by omega) (by omega),Qkz];rfl
 have s100:z119.F 100 1=some (rf 100):=by
  rw [Yf (by omega) (by omega) (by omega),Qkz];rfl
 obtain ⟨hb1,hb2⟩:=Qjk s
 unfold z125.F mRate
 rw [s0]
 simp only [Zb]
 by_cases hl:4096<s.length
 ·have hm:mDec s=(0,0,7):=by unfold mDec;rw [if_pos hl]
  rw [bif_t (by omega),hm,if_pos (by decide)]
 ·rw [Qa (by omega),Qul (by omega)]
  simp only [Zb,decD]
  generalize mDec s=d at *
  obtain ⟨c,sc,e⟩:=d
  simp only at *
  by_cases h:e=0
  ·rw [Zt h,if_neg (by omega)]
   simp only [Zn,Zc]
   have hp0:0<10^sc:=Nat.pow_pos (by decide)
   have n1:=Qu (Qbb c hp0)
   have n2:=Qu (Qbf c hp0)
   have l:=Qdh sc
   have k1:sz (Rat.num 1000).natAbs<=4:=sz_le (by decide)
   have k2:sz (Rat.den 1000)<=1:=sz_le (by decide)
   have k3:sz (Rat.num 100).natAbs<=3:=sz_le (by decide)
   have k4:sz (Rat.den 100)<=1:=sz_le (by decide)
   rw [Qzs (by omega) (by omega)]
   simp only [Zb]
   rw [s1000]
   simp only [Zb]
   have hcmp:=Qxn (q:=mkRat c (10^sc)) (r:=1000) (by omega) (by omega)
   rw [hcmp]
   simp only [Zb]
   have hgt:=Qy9 (n:=c) hp0 1000
   have e1:(mkRat c (10^sc)).num*((Rat.den 1000:Nat):Int)=(mkRat c (10^sc)).num:=by
    show _*((1:Nat):Int)=_
    simp
   have e2:Rat.num 1000=1000:=rfl
   rw [e1,e2]
   by_cases h1:c<0
   ·rw [bif_t h1,if_pos (.inl h1)]
   ·rw [Qa h1]
    by_cases h2:1000*((10^sc:Nat):Int)<c
    ·rw [bif_t (Wh.2 (hgt.2 h2)),if_pos (.inr (.inl h2))]
    ·rw [Qa (λh=>h2 (hgt.1 (Wh.1 h)))]
     by_cases h3:12<sc
     ·rw [bif_t (by omega),if_pos (.inr (.inr h3))]
     ·rw [Qa (by omega),if_neg (by omega)]
      unfold z125.j6
      rw [s100]
      simp only [Zb]
      rw [Qhd (q:=mkRat c (10^sc)) (r:=100) (by decide) (by omega) (by omega)]
      rfl
  ·rw [Zf h,if_pos h];rfl
theorem Qef (a b c a' b' c':Int):z132.F a b c a' b' c'=some (dcmp a b c a' b' c'):=by
 have e0:wr .i64 (0+1)=1:=by decide
 have e1:wr .i64 (1+1)=2:=by decide
 have e2:wr .i64 (2+1)=3:=by decide
 have step:∀(i:Nat) (x y:Int) (o:Int⊕Int),i<3->[a,b,c].getD i 0=x->[a',b',c'].getD i 0=y->Runs (λrec z=>z132.l0P [a,b,c] [a',b',c'] rec some z) (wr .i64 ((i:Int)+1)) o ->
   Runs (λrec z=>z132.l0P [a,b,c] [a',b',c'] rec some z) (i:Int) (if x<y then .inr (-1) else if y<x then .inr 1 else o):=λi x y o hi hx hy r=>by
  have c1:(0:Int)<=(i:Int)/\(i:Int)<([a,b,c].length:Int):=by simp;omega
  have c2:(0:Int)<=(i:Int)/\(i:Int)<([a',b',c'].length:Int):=by simp;omega
  by_cases h1:x<y
  ·rw [if_pos h1]
   refine .done λrec=>?_
   unfold z132.l0P
   rw [bif_t (by omega),if_pos c1,if_pos c2,Zi,hx,hy,bif_t h1]
  ·rw [if_neg h1]
   by_cases h2:y<x
   ·rw [if_pos h2]
    refine .done λrec=>?_
    unfold z132.l0P
    rw [bif_t (by omega),if_pos c1,if_pos c2,Zi,hx,hy,Qa h1,if_pos c1,if_pos c2,bif_t h2]
   ·rw [if_neg h2]
    refine .step (λrec=>?_) r
    unfold z132.l0P
    rw [bif_t (by omega),if_pos c1,if_pos c2,Zi,hx,hy,Qa h1,if_pos c1,if_pos c2,Qa h2]
 have r3:Runs (λrec z=>z132.l0P [a,b,c] [a',b',c'] rec some z) (wr .i64 (((2:Nat):Int)+1)) (.inl 3):=by
  rw [show wr .i64 (((2:Nat):Int)+1)=3 from e2]
  exact .done λrec=>by unfold z132.l0P;rw [Qa (by decide)]
 have r2:=step 2 c c' _ (by decide) rfl rfl r3
 have r1:=step 1 b b' _ (by decide) rfl rfl (by rw [show wr .i64 (((1:Nat):Int)+1)=((2:Nat):Int) from e1];exact r2)
 have r0:=step 0 a a' _ (by decide) rfl rfl (by rw [show wr .i64 (((0:Nat):Int)+1)=((1:Nat):Int) from e0];exact r1)
 have e:z132.l0 [a,b,c] [a',b',c'] 0=_:=r0.lfp
 unfold z132.F dcmp
 rw [e]
 simp only [Zb]
 (repeat' split)<;>first|rfl|simp_all
def qtxt (q:Rat):List UInt8:=if q.den=1 then itxt q.num else itxt q.num++[47]++txt q.den
theorem Qs6 (z:Int):(itxt z).length<=sz z.natAbs+2:=by
 have:=Qc9 z.natAbs
 unfold itxt;split
 ·simp only [List.length_cons];omega
 ·omega
theorem W8 {z:Int} (hs:sz z.natAbs<=100000000):z6.F (dg z.natAbs) (neg z)=some (itxt z):=by
 have h1:=Qc9 z.natAbs
 have h2:=Qp z.natAbs
 exact Qkl (by omega) (by omega)
theorem Qmr {q:Rat} (hn:sz q.num.natAbs<=100000000) (hd:sz q.den<=100000000):z136.F (fr q).1 (fr q).2.1 (fr q).2.2=some (qtxt q):=by
 have h1:=Qs6 q.num
 have h2:=Qc9 q.den
 show z136.F (lb q.num.natAbs) (neg q.num) (lb (q.den-1))=_
 have hp:=q.den_pos
 unfold z136.F qtxt
 rw [Wy,W4 hn]
 simp only [Zb]
 by_cases h:q.den=1
 ·rw [bif_t (by omega),if_pos h]
 ·rw [Qa (by omega),if_neg h,if_pos (by simp only [List.length_singleton];omega),Yy q _ _ (by omega)]
  simp only [Zb]
  rw [digits_Print hd]
  simp only [Zb]
  rw [if_pos (by simp only [List.length_append,List.length_singleton];omega)]
theorem Qyr {q:Rat} (hn:sz q.num.natAbs<=100000000) (hd:sz q.den<=100000000):z140.F (rf q).1 (rf q).2.1 (rf q).2.2=some (qtxt q):=by
 have h1:=Qs6 q.num
 have h2:=Qc9 q.den
 have h3:=Qp q.den
 show z140.F (dg q.num.natAbs) (neg q.num) (dg q.den)=_
 have hp:=q.den_pos
 have hj:z140.j2 (dg q.den) (itxt q.num)=some (itxt q.num++[47]++txt q.den):=by
  unfold z140.j2
  rw [Qle (by omega)]
  simp only [Zb]
  rw [if_pos (by simp only [List.length_singleton];omega),if_pos (by simp only [List.length_append,List.length_singleton];omega)]
 have e:dg q.den=((q.den%10000:Nat):Int)::dg (q.den/10000):=Wg b4 hp
 have e1:((dg q.den).getD 0 0)=((q.den%10000:Nat):Int):=by rw [e];rfl
 have hl:=dg_len0 (q.den/10000)
 have e2:(dg q.den).length=(dg (q.den/10000)).length+1:=by rw [e];rfl
 unfold z140.F qtxt
 rw [W8 hn]
 simp only [Zb]
 rw [hj,e1]
 by_cases h:(((dg q.den).length:Nat):Int)=1
 ·rw [bif_t h,if_pos (by omega)]
  by_cases h':((q.den%10000:Nat):Int)=1
  ·rw [bif_t h',if_pos (by omega)]
  ·rw [Qa h',if_neg (by omega)]
 ·rw [Qa h,if_neg (by omega)]
theorem Qk4 {n:Nat} (h0:10<=n) (h:n<100):txt n=[ch ((n/10:Nat):Int),ch ((n%10:Nat):Int)]:=by
 unfold txt
 rw [if_neg (by omega),Wg b10 (by omega),Wg b10 (by omega),Nat.div_eq_of_lt (by omega:n/10<10),toB_zero,Nat.mod_eq_of_lt (by omega:n/10<10)];rfl
theorem Qd6 (q:Rat) (b:List Int):z147.F (lb q.num.natAbs) (neg q.num) b=some (cmpI q.num 0):=by
 unfold z147.F
 rw [W0]
 rfl
theorem Qyk (q:Rat) (b:List Int):z148.F (lb q.num.natAbs) (neg q.num) b=some (lb q.num.natAbs,neg q.num):=rfl
def rndN (m:Int) (a d:Nat):Nat:=if upN m (a/d) (a%d) d then a/d+1 else a/d
def rnd (m:Int) (q:Rat):Int:=if q.num<0 then -(rndN m q.num.natAbs q.den:Int) else (rndN m q.num.natAbs q.den:Int)
theorem Qua (m:Int) {d:Nat} (h:0<d):rndN m 0 d=0:=by
 unfold rndN
 rw [Nat.zero_mod,Nat.zero_div,if_neg (λhu=>hu.1 rfl)]
theorem Qhm (m:Int):rnd m 0=0:=by
 unfold rnd
 rw [if_neg (by decide)]
 show ((rndN m 0 1:Nat):Int)=0
 rw [Qua m (by decide)];rfl
theorem Jg {a b:D3} (h:rightD a) (h':rightD b) (e:numD a=numD b):a=b:=by
 have h1:=Q9 h h'
 rw [e] at h1
 have h2:cmpI (numD b) (numD b)=0:=by unfold cmpI;rw [if_neg (by omega),if_pos rfl]
 rw [h2] at h1
 unfold cmpD dcmp at h1
 obtain ⟨a1,a2,a3⟩:=a
 obtain ⟨b1,b2,b3⟩:=b
 simp only at h1
 have:a1=b1/\a2=b2/\a3=b3:=by
  split at h1
  ·simp at h1
  ·split at h1
   ·simp at h1
   ·split at h1
    ·simp at h1
    ·split at h1
     ·simp at h1
     ·split at h1
      ·simp at h1
      ·split at h1
       ·simp at h1
       ·omega
 obtain ⟨rfl,rfl,rfl⟩:=this;rfl
def exR (b:Int) (to:D3):Rat->List Lg->Rat
 |s,[]=>s
 |s,x::l=>if cmpD x.f to>=0 then exR b to s l else exR b to (s+term b to x) l
theorem Qsp {b:Int} {to:D3} (hr:rightD to):∀(l:List Lg) (a:D3) (s:Rat),mLegs (some a) l=0->numD to<=numD a->exR b to s l=s
 |[],_,_,_,_=>rfl
 |
  x::l,a,s,h,ha=>by
  unfold mLegs at h
  split at h
  ·rename_i h1;exact absurd h h1
  rename_i h1
  obtain ⟨r1,r2,r3,r4,_,_⟩:=Qak (by omega:mLeg (some a) x=0)
  have:=r4 a rfl
  subst this
  unfold exR
  rw [if_pos (by rw [Q9 r1 hr,W7];omega)]
  exact Qsp hr l x.t s h (by omega)
theorem Qhy {b:Int} {to:D3} (hr:rightD to):∀(l:List Lg) (a:Option D3) (s:Rat),mLegs a l=0->exR b to s l=exL b to s l
 |[],_,_,_=>rfl
 |
  x::l,a,s,h=>by
  unfold mLegs at h
  split at h
  ·rename_i h1;exact absurd h h1
  rename_i h1
  obtain ⟨r1,r2,r3,r4,_,_⟩:=Qak (by omega:mLeg a x=0)
  unfold exR exL
  by_cases hc:cmpD x.f to>=0
  ·rw [if_pos hc,if_pos hc]
   rw [Q9 r1 hr,W7] at hc
   exact Qsp hr l x.t s h (by omega)
  ·rw [if_neg hc,if_neg hc]
   exact Qhy hr l (some x.t) _ h
theorem Qhk {k j:Nat} {q r:Rat} (hq:Sq k q) (hr:Sq j r) (hs:k+j<=10000000) :
  z163.F (rf q).1 (rf q).2.1 (rf q).2.2 (rf r).1 (rf r).2.1 (rf r).2.2=some (rf (q+r)):=by
 have h1:=hq.dens hr
 have h2:=hq.cross hr;have h2':=hr.cross hq
 have h3:=Qae (q.num*r.den) (r.num*q.den)
 have q1:=hq.1;have q2:=hq.2;have r1:=hr.1;have r2:=hr.2
 have l3:=Qp q.den;have l4:=Qp r.den
 have l5:=Qp (q.num*r.den).natAbs;have l6:=Qp (r.num*q.den).natAbs
 unfold z163.F
 rw [Qee (q:=q) (r:=r) (by omega)]
 simp only [Zb]
 rw [Qee (q:=r) (r:=q) (by omega)]
 simp only [Zb]
 rw [Qd8 (by omega)]
 simp only [Zb]
 rw [Qdp (by omega)]
 simp only [Zb]
 rw [Qdt (Nat.mul_pos q.den_pos r.den_pos) (by omega) (by omega),<-Rat.add_def']
 rfl
theorem Qbj {k j:Nat} {q r:Rat} (hq:Sq k q) (hr:Sq j r) (hs:k+j<=10000000) :
  z167.F (rf q).1 (rf q).2.1 (rf q).2.2 (rf r).1 (rf r).2.1 (rf r).2.2=some (rf (q*r)):=by
 have h1:=hq.dens hr
 have h2:=Yg q.num r.num
 have q1:=hq.1;have q2:=hq.2;have r1:=hr.1;have r2:=hr.2
 have l1:=Qp q.num.natAbs;have l2:=Qp r.num.natAbs;have l3:=Qp q.den;have l4:=Qp r.den
 unfold z167.F
 rw [Qhi (by omega)]
 simp only [Zb]
 rw [Qdp (by omega)]
 simp only [Zb]
 rw [Qdt (Nat.mul_pos q.den_pos r.den_pos) (by omega) (by omega),<-Rat.mul_def']
 rfl
theorem Qsc:dg 1=[1]:=by
 show toB 10000 1=_
 rw [Wg b4 (by decide),show 1/10000=0 from rfl,toB_zero];rfl
theorem Q3a:dg 2=[2]:=by
 show toB 10000 2=_
 rw [Wg b4 (by decide),show 2/10000=0 from rfl,toB_zero];rfl
theorem Qln (z:Int):z166.F (dg z.natAbs) (neg z)=some (rf (z:Rat)):=by
 show some _=some (dg z.natAbs,neg z,dg 1)
 rw [Qsc]
theorem Qvd {n:Nat} (h:n<18446744073709551616):wr .u64 ((BitVec.ofInt (IntKind.bits .u64) (n:Int) &&& BitVec.ofInt (IntKind.bits .u64) (1:Int)).toNat:Int)=((n%2:Nat):Int):=by
 rw [BitVec.toNat_and,Qdq h,show (1:Int)=((1:Nat):Int) from rfl,Qdq (by omega),show (1:Nat)=2^1-1 from rfl,Nat.and_two_pow_sub_one_eq_mod,Qq (by omega) (by omega)]
theorem Qwp {m:Int} {low rest d:Nat} (hm:0<=m/\m<=4) (h0:rest≠0) (h1:sz low<=100000000) (h2:sz rest<=100000000):z149.F m (lb low) (lb rest) (lb d)=some (decide (upN m low rest d)):=by
 have l1:=Qj low;have l2:=Qj rest
 have l3:=Qj (rest+rest);have l4:=Y7 rest rest
 unfold z149.F
 rw [Qbq (by omega)]
 simp only [Zb]
 rw [Qcb (by omega)]
 simp only [Zb]
 have g:cmpI ((rest+rest:Nat):Int) d>=0↔d<=2*rest:=by rw [W7];omega
 have g':cmpI ((rest+rest:Nat):Int) d>0↔d<2*rest:=by rw [Wh];omega
 have g'':cmpI ((rest+rest:Nat):Int) d=0↔d=2*rest:=by rw [Yt];omega
 generalize cmpI ((rest+rest:Nat):Int) d=c at *
 unfold upN
 by_cases m1:m=1
 ·rw [bif_t m1];congr 1;symm;apply Zt;exact ⟨h0,.inl m1⟩
 rw [Qa m1]
 by_cases m2:m=2
 ·rw [bif_t m2];congr 1;apply decide_eq_decide.2;rw [g];omega
 rw [Qa m2]
 by_cases m3:m=3
 ·rw [bif_t m3];congr 1;apply decide_eq_decide.2;rw [g'];omega
 rw [Qa m3]
 by_cases m4:m=4
 ·rw [bif_t m4,J1 (by show List.length _<=_;omega)]
  simp only [Zb]
  have hlen:=Qko low
  by_cases hl:low=0
  ·rw [Qa (by omega)]
   by_cases c1:c>0
   ·rw [bif_t c1];congr 1;symm;apply Zt;omega
   ·have hF:∀x:Bool,(bif x then some false else some false)=some false:=λx=>by cases x<;>rfl
    rw [Qa c1,hF];congr 1;symm;apply Zf;omega
  ·rw [bif_t (by omega),if_pos (by omega)]
   have e0:(lb low).getD 0 0=((low%LB:Nat):Int):=by
    have:=Qwb bL 0 low
    rwa [Nat.pow_zero,Nat.div_one] at this
   have e1:low%LB%2=low%2:=Nat.mod_mod_of_dvd low (by decide)
   rw [e0,Qvd (n:=low%LB) (Nat.mod_lt _ (by decide)),e1]
   by_cases c1:c>0
   ·rw [bif_t c1];congr 1;symm;apply Zt;omega
   ·rw [Qa c1]
    by_cases c2:c=0
    ·rw [bif_t c2];congr 1;apply decide_eq_decide.2;omega
    ·rw [Qa c2];congr 1;symm;apply Zf;omega
 ·rw [Qa m4];congr 1;symm;apply Zf;omega
theorem Qji (m:Int) (q:Rat):(rnd m q).natAbs=rndN m q.num.natAbs q.den/\((neg q.num=true/\rnd m q<=0)\/(neg q.num=false/\0<=rnd m q)):=by
 unfold rnd
 by_cases h:q.num<0
 ·rw [if_pos h];exact ⟨by omega,.inl ⟨Zt h,by omega⟩⟩
 ·rw [if_neg h];exact ⟨by omega,.inr ⟨Zf h,by omega⟩⟩
theorem Qov (m:Int):z79.F m=some (decide (0<=m/\m<=4)):=by
 unfold z79.F
 by_cases h:m>=0
 ·rw [bif_t h];congr 1;apply decide_eq_decide.2;omega
 ·rw [Qa h];congr 1;symm;apply Zf;omega
theorem Q36 {m:Int} (h:¬(0<=m/\m<=4)) (a:List Int) (b:Bool) (c:List Int):z150.F a b c m=some ([],false,2):=by
 unfold z150.F
 rw [Qov,Zf h];rfl
theorem round_Whole {m:Int} {k:Nat} {q:Rat} (hm:0<=m/\m<=4) (hq:Sq k q) (hk:k<=40000000) :
  z150.F (fr q).1 (fr q).2.1 (fr q).2.2 m=some (lb (rnd m q).natAbs,neg (rnd m q),0):=by
 have q1:=hq.1;have q2:=hq.2
 have l1:=Qj q.num.natAbs
 have s1:=Qu (Nat.div_le_self q.num.natAbs q.den)
 have s2:=Qu (Nat.mod_le q.num.natAbs q.den)
 have l2:=Qj (q.num.natAbs/q.den)
 have l3:(lb 1).length<=1:=Nat.le_trans (Qj 1) (sz_le (by decide))
 obtain ⟨a1,a2⟩:=Qji m q
 have hj:∀b:List Int,z150.j14 (lb q.num.natAbs) (neg q.num) b (lb (rndN m q.num.natAbs q.den))=some (lb (rnd m q).natAbs,neg (rnd m q),0):=λb=>by
  unfold z150.j14
  rw [Qd6]
  simp only [Zb]
  rw [Qpb,Yu (z:=rnd m q) a1.symm a2]
  rfl
 unfold z150.F
 rw [Qov,Zt hm]
 simp only [Zb,Zn,Zc]
 rw [Qyk]
 simp only [Zb]
 unfold z59.F
 simp only [Zb]
 rw [Yy q _ _ (by omega)]
 simp only [Zb]
 have hdiv:z68.F (lb q.num.natAbs) (lb q.den)=_:=Qk0 q.den_pos (by omega)
 rw [hdiv]
 simp only [Zb]
 rw [Wy]
 simp only [Zb]
 by_cases hr:q.num.natAbs%q.den=0
 ·rw [Zt hr,Zn,Zc]
  have:rndN m q.num.natAbs q.den=q.num.natAbs/q.den:=by unfold rndN;rw [if_neg (λh=>h.1 hr)]
  rw [<-this];exact hj _
 ·rw [Zf hr,Zo,Zd]
  try rw [Yy q _ _ (by omega)]
  try simp only [Zb]
  rw [Qwp hm hr (by omega) (by omega)]
  simp only [Zb]
  by_cases hu:upN m (q.num.natAbs/q.den) (q.num.natAbs%q.den) q.den
  ·rw [bif_t hu,Yh (by omega)]
   simp only [Zb]
   rw [show Int.toNat 1=1 from rfl,Qbq (by omega)]
   simp only [Zb]
   have:rndN m q.num.natAbs q.den=q.num.natAbs/q.den+1:=by unfold rndN;rw [if_pos hu]
   rw [<-this];exact hj _
  ·rw [Qa hu]
   have:rndN m q.num.natAbs q.den=q.num.natAbs/q.den:=by unfold rndN;rw [if_neg hu]
   rw [<-this];exact hj _
theorem Qff {m:Int} {k:Nat} {q:Rat} (hm:0<=m/\m<=4) (hq:Sq k q) (hk:k<=10000000) :
  z169.F (rf q).1 (rf q).2.1 (rf q).2.2 m=some (dg (rnd m q).natAbs,neg (rnd m q)):=by
 have q1:=hq.1;have q2:=hq.2
 have s1:=Qu (Nat.div_le_self q.num.natAbs q.den)
 have s2:=Qu (Nat.mod_le q.num.natAbs q.den)
 have l1:=Qp (q.num.natAbs/q.den)
 have l2:=Qp (q.num.natAbs%q.den)
 have l3:(dg 1).length<=1:=Nat.le_trans (Qp 1) (sz_le (by decide))
 have l4:(dg 2).length<=1:=Nat.le_trans (Qp 2) (sz_le (by decide))
 have s4:sz 2<=1:=sz_le (by decide)
 have s3:=Q7 (q.num.natAbs%q.den) 2
 have l5:=Qp (q.num.natAbs%q.den*2)
 obtain ⟨a1,a2⟩:=Qji m q
 unfold z169.F
 rw [Qd0 q.den_pos (by omega) (by omega)]
 simp only [Zb]
 rw [<-Qsc,Qoq (by omega)]
 simp only [Zb]
 rw [<-Q3a,Qdp (by omega)]
 simp only [Zb]
 rw [Qjy (by omega)]
 simp only [Zb]
 rw [Qd0 (by decide) (by omega) (by omega)]
 simp only [Zb]
 have g:cmpI ((q.num.natAbs%q.den*2:Nat):Int) q.den>=0↔q.den<=2*(q.num.natAbs%q.den):=by rw [W7];omega
 have g':cmpI ((q.num.natAbs%q.den*2:Nat):Int) q.den>0↔q.den<2*(q.num.natAbs%q.den):=by rw [Wh];omega
 have g'':cmpI ((q.num.natAbs%q.den*2:Nat):Int) q.den=0↔q.den=2*(q.num.natAbs%q.den):=by rw [Yt];omega
 have hlen:=Qhn (q.num.natAbs%q.den)
 have hodd:=Qhn (q.num.natAbs/q.den%2)
 have hj:∀u:Bool,u=decide (upN m (q.num.natAbs/q.den) (q.num.natAbs%q.den) q.den)->z169.j11 u (dg (q.num.natAbs/q.den+1)) (neg q.num) (dg (q.num.natAbs/q.den),dg (q.num.natAbs%q.den))=some (dg (rnd m q).natAbs,neg (rnd m q)):=λu hu=>by
  unfold z169.j11
  by_cases h:upN m (q.num.natAbs/q.den) (q.num.natAbs%q.den) q.den
  ·rw [hu,bif_t h,Y5 (z:=rnd m q) (by rw [a1];unfold rndN;rw [if_pos h]) a2];rfl
  ·rw [hu,Qa h,Y5 (z:=rnd m q) (by rw [a1];unfold rndN;rw [if_neg h]) a2];rfl
 unfold upN at hj
 generalize cmpI ((q.num.natAbs%q.den*2:Nat):Int) q.den=c at *
 generalize q.num.natAbs%q.den=rest at *
 generalize q.num.natAbs/q.den=low at *
 have hb:∀{p r:Prop} [Decidable p] [Decidable r],(p↔r)->decide p=decide r:=λh=>decide_eq_decide.2 h
 by_cases h0:rest=0
 ·rw [Qa (by omega)]
  exact hj false (by symm;apply Zf;omega)
 rw [bif_t (by omega)]
 by_cases m1:m=1
 ·rw [bif_t m1]
  unfold z169.j6
  rw [Qa (by omega),Qa (by omega)]
  unfold z169.j10
  rw [Qa (by omega)]
  exact hj true (by symm;apply Zt;omega)
 rw [Qa m1]
 unfold z169.j6
 by_cases m2:m=2
 ·rw [bif_t m2,Qa (by omega)]
  unfold z169.j9
  rw [Qa (by omega)]
  exact hj _ (hb (by rw [g];omega))
 rw [Qa m2]
 by_cases m3:m=3
 ·rw [bif_t m3]
  unfold z169.j10
  rw [Qa (by omega)]
  exact hj _ (hb (by rw [g'];omega))
 rw [Qa m3]
 unfold z169.j10
 by_cases m4:m=4
 ·rw [bif_t m4]
  by_cases c1:c>0
  ·rw [bif_t c1]
   exact hj true (by symm;apply Zt;omega)
  ·rw [Qa c1]
   by_cases c2:c=0
   ·rw [bif_t c2]
    refine hj _ (hb ?_)
    show (((dg (low%2)).length:Nat):Int)>0↔_
    rw [hodd];omega
   ·rw [Qa c2]
    exact hj false (by symm;apply Zf;omega)
 ·rw [Qa m4]
  exact hj false (by symm;apply Zf;omega)
theorem Qig {y:Int} (h:1<=y/\y<=20000):0<=aheadY y/\aheadY y<=8000000:=Jy h
theorem Qo6 (y:Int):aheadY (y+1)=aheadY y+ysz y:=by rw [Qan,Qra]
theorem Qm0 {Y:Int} (hY:goodY Y):∀(f:Nat) (y:Int),1<=y->y+f=Y->Runs (λrec x=>z164.l0P Y rec some x) (aheadY y,y) (aheadY Y,Y)
 |
  0,y,h1,hf=>by
  have:y=Y:=by omega
  subst this
  refine .done λrec=>?_
  unfold z164.l0P
  simp only
  rw [Qa (by omega)]
 |
  f+1,y,h1,hf=>by
  have b:=Qig (y:=y) (by omega)
  have e:=Qo6 y
  have z:=Qen y
  refine .step (λrec=>?_) (Qm0 hY f (y+1) (by omega) (by omega))
  unfold z164.l0P
  simp only
  rw [bif_t (by omega),Qj9]
  simp only [Zb]
  rw [Qc (n:=aheadY y+365) (by omega) (by omega),Qc (n:=y+1) (by omega) (by omega)]
  unfold ysz at e
  by_cases hl:leap y
  ·rw [bif_t ⟨by omega,hl⟩,Qc (by omega) (by omega),e,if_pos hl];congr 2;omega
  ·rw [Qa (λh=>hl h.2),e,if_neg hl]
theorem Qpx {y M:Int} (hy:goodY y) (hM:M<=12):∀(f:Nat) (m:Int),1<=m->m+f=M->Runs (λrec x=>z164.l2P y M rec some x) (aheadY y+cumD y m,m) (aheadY y+cumD y M,M)
 |
  0,m,h1,hf=>by
  have:m=M:=by omega
  subst this
  refine .done λrec=>?_
  unfold z164.l2P
  simp only
  rw [Qa (by omega)]
 |
  f+1,m,h1,hf=>by
  have b:=Qig (y:=y) (by omega)
  have c:=Qi7 (y:=y) (m:=m) (by omega)
  have e:=Jj hy (m:=m) (by omega)
  have dl:=Qdg y m
  refine .step (λrec=>?_) (Qpx hy hM f (m+1) (by omega) (by omega))
  unfold z164.l2P
  simp only
  rw [bif_t (by omega),Qcx]
  simp only [Zb]
  rw [Qc (n:=m+1) (by omega) (by omega),Qc (by omega) (by omega),e]
  congr 2;omega
theorem Qkx {a:D3} (h:rightD a):z164.F a.1 a.2.1 a.2.2=some (numD a):=by
 have g:=Q3 h
 have b:=Qy h
 have en:numD a=aheadY a.1+cumD a.1 a.2.1+a.2.2:=rfl
 have r1:z164.l0 a.1 ((0:Int),(1:Int))=some (aheadY a.1,a.1):=(Qm0 g.1 (a.1-1).toNat 1 (by omega) (by omega)).lfp
 have r2:=(Qpx g.1 g.2.2.1 (a.2.1-1).toNat 1 (by omega) (by omega)).lfp
 rw [Jm,Int.add_zero] at r2
 have r2':z164.l2 a.1 a.2.1 (aheadY a.1,(1:Int))=some (aheadY a.1+cumD a.1 a.2.1,a.2.1):=r2
 unfold z164.F
 rw [r1]
 simp only [Zb]
 rw [r2']
 simp only [Zb]
 rw [Qc (by omega) (by omega)]
 rfl
def Wx (a:D3) (y:Int):Rat:=if y=a.1 then 0 else (y:Rat)-yAt a.1 a.2.1 a.2.2
theorem Qy0 {a:D3} (h:rightD a) {y:Int} (hy:goodY y):Sq 20 (Wx a y):=by
 have g:=Q3 h
 have b:=Qy h
 have en:numD a=num a.1 a.2.1 a.2.2:=rfl
 have m1:=Jy (y:=a.1) (by omega)
 unfold Wx
 split
 ·exact Sq.zero (by decide)
 ·rw [Rat.sub_eq_add_neg]
  have s2:Sq 4 (y:Rat):=Sq.int (Nat.le_trans (sz_le (k:=4) (by omega)) (by decide)) (by decide)
  exact s2.add (Qix a.1 _ g.1 (by omega)).neg
theorem Qy3 {a b:D3} (ha:rightD a) (hb:rightD b) (h:numD a<=numD b):∀(f:Nat) (y:Int),a.1<=y->y+f=b.1 ->
  Runs (λrec x=>z165.l0P (numD a) (numD b) b.1 rec some x) (y,(rf (Wx a y)).1,(rf (Wx a y)).2.1,(rf (Wx a y)).2.2)
   (b.1+1,(rf (yAt b.1 b.2.1 b.2.2-yAt a.1 a.2.1 a.2.2)).1,(rf (yAt b.1 b.2.1 b.2.2-yAt a.1 a.2.1 a.2.2)).2.1,(rf (yAt b.1 b.2.1 b.2.2-yAt a.1 a.2.1 a.2.2)).2.2):=by
 have ga:=Q3 ha
 have gb:=Q3 hb
 have b1:=Qy ha;have b2:=Qy hb
 have y1:=Jo ha;have y2:=Jo hb
 have round:∀(y:Int),a.1<=y->y<=b.1->∀{R:Type} (rec done:(Int×(List Int)×Bool×(List Int))->Option R),
   z165.l0P (numD a) (numD b) b.1 rec done (y,(rf (Wx a y)).1,(rf (Wx a y)).2.1,(rf (Wx a y)).2.2) =
    rec (y+1,rf (inY y (if y=b.1 then numD b else aheadY (y+1)+1)-yAt a.1 a.2.1 a.2.2)):=λy h1 h2 {R} rec done=>by
  have gy:goodY y:=by omega
  have hf:rightD (y,1,1):=Qrg gy
  have m1:=Qig (y:=y) (by omega)
  have e:=Qo6 y
  have z:=Qen y
  have hnum:=Qkx hf
  simp only at hnum
  have en:numD (y,1,1)=aheadY y+1:=Qqo y
  have hto:(if numD b<wr .i64 (aheadY y+1+ysz y) then numD b else wr .i64 (aheadY y+1+ysz y))=(if y=b.1 then numD b else aheadY (y+1)+1):=by
   rw [Qc (by omega) (by omega)]
   by_cases hyb:y=b.1
   ·rw [if_pos hyb]
    subst hyb
    rw [if_pos (by omega)]
   ·rw [if_neg hyb]
    have:=Qaj (y:=y+1) (y':=b.1) (by omega)
    rw [if_neg (by omega)];omega
  have hfrom:inY y (if numD a>aheadY y+1 then numD a else aheadY y+1)=(if y=a.1 then yAt a.1 a.2.1 a.2.2 else (y:Rat))/\aheadY y+1<=(if numD a>aheadY y+1 then numD a else aheadY y+1)/\(if numD a>aheadY y+1 then numD a else aheadY y+1)<=9000000:=by
   by_cases hya:y=a.1
   ·rw [if_pos hya]
    subst hya
    have:(if numD a>aheadY a.1+1 then numD a else aheadY a.1+1)=numD a:=by split<;>omega
    rw [this]
    exact ⟨rfl,by omega,by omega⟩
   ·rw [if_neg hya]
    have:=Qaj (y:=a.1+1) (y':=y) (by omega)
    rw [if_neg (by omega),Qjx]
    exact ⟨rfl,by omega,by omega⟩
  have htb:aheadY y+1<=(if y=b.1 then numD b else aheadY (y+1)+1)/\(if y=b.1 then numD b else aheadY (y+1)+1)<=9000000:=by
   by_cases hyb:y=b.1
   ·rw [if_pos hyb];subst hyb;omega
   ·rw [if_neg hyb];omega
  have hj:z165.j1015a rec done (numD b) (aheadY y+1) (ysz y) (numD a) (rf (Wx a y)).1 (rf (Wx a y)).2.1 (rf (Wx a y)).2.2 y=rec (y+1,rf (inY y (if y=b.1 then numD b else aheadY (y+1)+1)-yAt a.1 a.2.1 a.2.2)):=by
   unfold z165.j1015a
   rw [hto]
   obtain ⟨f1,f2,f3⟩:=hfrom
   generalize (if numD a>aheadY y+1 then numD a else aheadY y+1)=fr0 at *
   generalize (if y=b.1 then numD b else aheadY (y+1)+1)=to0 at *
   rw [Qc (n:=to0-fr0) (by omega) (by omega),Yf (by omega) (by omega) (by omega)]
   simp only [Zb]
   rw [Qhk (Qy0 ha gy) (Qb3 (by omega) (by omega)) (by decide)]
   simp only [Zb]
   rw [Qc (by omega) (by omega),<-Qd7]
   have:Wx a y+(inY y to0-inY y fr0)=inY y to0-yAt a.1 a.2.1 a.2.2:=by
    rw [f1]
    unfold Wx
    split<;>grind
   rw [this]
  unfold z165.l0P
  simp only
  rw [bif_t (by omega),hnum,en]
  simp only [Zb]
  rw [Qj9]
  simp only [Zb]
  unfold ysz at hj
  by_cases hl:leap y
  ·rw [if_pos hl] at hj
   rw [bif_t ⟨gy,hl⟩];exact hj
  ·rw [if_neg hl] at hj
   rw [Qa (λh=>hl h.2)];exact hj
 intro f
 induction f with
 |
  zero=>
  intro y h1 hf
  have hyb:y=b.1:=by omega
  refine .step (y:=(b.1+1,rf (yAt b.1 b.2.1 b.2.2-yAt a.1 a.2.1 a.2.2))) (λrec=>?_) (.done λrec=>?_)
  ·rw [round y h1 (by omega) rec some,if_pos hyb,hyb];rfl
  ·unfold z165.l0P
   simp only
   rw [Qa (by omega)]
 |
  succ f ih=>
  intro y h1 hf
  refine .step (λrec=>?_) (ih (y+1) (by omega) (by omega))
  rw [round y h1 (by omega) rec some,if_neg (by omega),Qh8]
  have:Wx a (y+1)=((y+1:Int):Rat)-yAt a.1 a.2.1 a.2.2:=by unfold Wx;rw [if_neg (by omega)]
  rw [this]
theorem Qp1 {bs:Int} {a b:D3} (hbs:0<=bs/\bs<=2) (ha:rightD a) (hb:rightD b) (h:numD a<=numD b) :
  z165.F bs a.1 a.2.1 a.2.2 b.1 b.2.1 b.2.2=some (rf (yf bs a.1 a.2.1 a.2.2 b.1 b.2.1 b.2.2)):=by
 have ga:=Q3 ha
 have gb:=Q3 hb
 have b1:=Qy ha;have b2:=Qy hb
 have en1:numD a=num a.1 a.2.1 a.2.2:=rfl
 have en2:numD b=num b.1 b.2.1 b.2.2:=rfl
 unfold z165.F yf
 by_cases h0:bs=0
 ·rw [bif_t h0,if_pos h0]
  have key:∀{j k:Int},0<=j/\j<=31->0<=k/\k<=31->Wd a.1 a.2.1 a.2.2 b.1 b.2.1 b.2.2=360*(b.1-a.1)+30*(b.2.1-a.2.1)+j-k->z119.F (wr .i64 (wr .i64 (wr .i64 (wr .i64 (360*wr .i64 (b.1-a.1))+wr .i64 (30*wr .i64 (b.2.1-a.2.1)))+j)-k)) 360=some (rf (Rat.divInt (Wd a.1 a.2.1 a.2.2 b.1 b.2.1 b.2.2) 360)):=λ{j k} hj hk e=>by
   rw [Qm7 ga.1 ⟨ga.2.1,ga.2.2.1⟩ gb.1 ⟨gb.2.1,gb.2.2.1⟩ hj hk,e,Yf (by omega) (by omega) (by decide)]
  by_cases h1:a.2.2=31
  ·rw [bif_t h1]
   by_cases h2:b.2.2=31
   ·rw [bif_t h2];unfold z165.j6
    rw [key (by omega) (by omega) (by unfold Wd;rw [if_pos (by omega),if_pos (by omega)])];rfl
   ·rw [Qa h2];unfold z165.j6
    rw [key (by omega) (by omega) (by unfold Wd;rw [if_neg (by omega),if_pos (by omega)])];rfl
  ·rw [Qa h1]
   by_cases h2:b.2.2=31
   ·rw [bif_t h2]
    by_cases h3:a.2.2=30
    ·rw [bif_t h3];unfold z165.j9
     rw [key (by omega) (by omega) (by unfold Wd;rw [if_pos (by omega),if_neg (by omega)])];rfl
    ·rw [Qa h3];unfold z165.j9
     rw [key (by omega) (by omega) (by unfold Wd;rw [if_neg (by omega),if_neg (by omega)])];rfl
   ·rw [Qa h2];unfold z165.j9
    rw [key (by omega) (by omega) (by unfold Wd;rw [if_neg (by omega),if_neg (by omega)])];rfl
 ·rw [Qa h0,if_neg h0,Qkx ha]
  simp only [Zb]
  rw [Qkx hb]
  simp only [Zb]
  by_cases h1:bs=1
  ·rw [bif_t h1,if_pos h1,Qc (by omega) (by omega),Yf (by omega) (by omega) (by decide)];rfl
  ·rw [Qa h1,if_neg h1,Yf (by omega) (by omega) (by decide)]
   simp only [Zb]
   have hle:a.1<=b.1:=by
    have y1:=Jo ha;have y2:=Jo hb
    rcases Int.lt_or_le b.1 a.1 with hh|hh
    ·have:=Qaj (y:=b.1+1) (y':=a.1) (by omega);omega
    ·exact hh
   have r:=(Qy3 ha hb h (b.1-a.1).toNat a.1 (by omega) (by omega)).lfp
   have e0:Wx a a.1=Rat.divInt 0 1:=by unfold Wx;rw [if_pos rfl,Rat.zero_divInt]
   rw [e0] at r
   have r':z165.l0 (numD a) (numD b) b.1 (a.1,(rf (Rat.divInt 0 1)).1,(rf (Rat.divInt 0 1)).2.1,(rf (Rat.divInt 0 1)).2.2)=_:=r
   rw [r']
   rfl
def prevT (l:List Lg) (i:Nat):Option D3:=if h:0<i/\i-1<l.length then some l[i-1].t else none
theorem Qqe {R:Type} {l:List Lg} {i:Nat} (hi:i<l.length) (hl:l.length<=1000000000) (ht:∀x∈l,x.op.length<=1000000) (rec:Int->Option R) (done:(Int⊕Int)->Option R) :
  z179.l0b19P (l.map lgv) rec done (i:Int)=if mLeg (prevT l i) l[i]≠0 then done (.inr (mLeg (prevT l i) l[i])) else rec ((i+1:Nat):Int):=by
 have ek:wr .i64 ((i:Int)+1)=((i+1:Nat):Int):=by rw [Qc (by omega) (by omega)];rfl
 have hb1:(0:Int)<=(i:Int):=by omega
 have hb2:(i:Int)<((l.map lgv).length:Int):=by rw [List.length_map];omega
 have hmo:=Qeu l[i].op (ht _ (List.getElem_mem hi))
 have tailp:∀(a:Option D3),mLeg a l[i]=(if (mMoney l[i].op).2≠0 then (mMoney l[i].op).2 else (mRate l[i].rt).2) ->
   (bif !decide ((mMoney l[i].op).2=0) then done (.inr (mMoney l[i].op).2) else bif !decide ((mRate l[i].rt).2=0) then done (.inr (mRate l[i].rt).2) else rec ((i+1:Nat):Int))=if mLeg a l[i]≠0 then done (.inr (mLeg a l[i])) else rec ((i+1:Nat):Int):=λa hm=>by
  rw [hm]
  by_cases h5:(mMoney l[i].op).2=0
  ·rw [Zt h5,Zn,Zc,if_neg (show ¬((mMoney l[i].op).2≠0) from λe=>e h5)]
   by_cases h6:(mRate l[i].rt).2=0
   ·rw [Zt h6,Zn,Zc,if_neg (λe=>e h6)]
   ·rw [Zf h6,Zo,Zd,if_pos h6]
  ·rw [Zf h5,Zo,Zd,if_pos (show (mMoney l[i].op).2≠0 from h5),if_pos h5]
 unfold z179.l0b19P
 simp only [hb1,hb2,and_self,if_true,decide_true,Zd,Zi,Q1 lgv hi,asL0,asL1,asL2,asL3,asL4,asL5,asL6,asL7,Y3,Zb,Qef,ek,hmo,Qe7]
 by_cases h1:rightD l[i].f
 ·rw [Zt h1,Zn,Zc]
  by_cases h2:rightD l[i].t
  ·rw [Zt h2,Zn,Zc]
   by_cases h3:cmpD l[i].f l[i].t>0
   ·have hm:mLeg (prevT l i) l[i]=12:=by unfold mLeg;rw [if_neg (λe=>e ⟨h1,h2⟩),if_pos (.inl h3)]
    rw [bif_t h3,hm];rfl
   ·rw [Qa h3]
    rcases Nat.eq_zero_or_pos i with h0|h0
    ·have hp:prevT l i=none:=by unfold prevT;rw [dif_neg (by omega)]
     rw [Qa (by omega),hp]
     exact tailp none (by rw [Qes,if_neg (λe=>e ⟨h1,h2⟩),if_neg h3])
    ·have hi1:i-1<l.length:=by omega
     have hp:prevT l i=some l[i-1].t:=by unfold prevT;rw [dif_pos ⟨h0,hi1⟩]
     have hw:wr .i64 ((if (1:Int)>(i:Int) then (1:Int) else (i:Int))-1)=((i-1:Nat):Int):=by
      rw [if_neg (by omega),Qc (by omega) (by omega)];omega
     have hb3:((i-1:Nat):Int)<((l.map lgv).length:Int):=by rw [List.length_map];omega
     have hb4:(0:Int)<=((i-1:Nat):Int):=by omega
     rw [bif_t (by omega),hw,hp]
     simp only [hb3,hb4,and_self,if_true,Zi,Q1 lgv hi1,asL0,asL1,asL2,asL3,asL4,asL5,asL6,asL7]
     rw [Qg2 l[i].f l[i-1].t]
     by_cases h4:l[i].f=l[i-1].t
     ·rw [if_pos h4]
      exact tailp (some l[i-1].t) (by rw [Qbi,if_neg (λe=>e ⟨h1,h2⟩),if_neg h3,if_pos h4])
     ·have hm:mLeg (some l[i-1].t) l[i]=12:=by rw [Qbi,if_neg (λe=>e ⟨h1,h2⟩),if_neg h3,if_neg h4]
      rw [if_neg h4,hm];rfl
  ·have hm:mLeg (prevT l i) l[i]=11:=by unfold mLeg;rw [if_pos (λe=>h2 e.2)]
   rw [Zf h2,Zo,Zd,hm];rfl
 ·have hm:mLeg (prevT l i) l[i]=11:=by unfold mLeg;rw [if_pos (λe=>h1 e.1)]
  rw [Zf h1,Zo,Zd,hm];rfl
theorem Ql6 {l:List Lg} (hl:l.length<=1000000000) (ht:∀x∈l,x.op.length<=1000000):∀(f i:Nat),i+f=l.length->∃o,Runs (λrec x=>z179.l0b19P (l.map lgv) rec some x) (i:Int) o/\(match o with | .inl _=>(0:Int) | .inr e=>e)=mLegs (prevT l i) (l.drop i)
 |
  0,i,hf=>by
  refine ⟨.inl i,.done λrec=>?_,?_⟩
  ·unfold z179.l0b19P
   rw [Qa (by rw [List.length_map];omega)]
  ·rw [List.drop_eq_nil_of_le (by omega)];rfl
 |
  f+1,i,hf=>by
  have hi:i<l.length:=by omega
  rw [List.drop_eq_getElem_cons hi]
  by_cases h:mLeg (prevT l i) l[i]≠0
  ·refine ⟨.inr (mLeg (prevT l i) l[i]),.done λrec=>?_,?_⟩
   ·rw [Qqe hi hl ht,if_pos h]
   ·unfold mLegs;rw [if_pos h]
  ·obtain ⟨o,r1,r2⟩:=Ql6 hl ht f (i+1) (by omega)
   have hp:prevT l (i+1)=some l[i].t:=by unfold prevT;rw [dif_pos ⟨by omega,by simpa using hi⟩];rfl
   rw [hp] at r2
   refine ⟨o,.step (λrec=>?_) r1,?_⟩
   ·rw [Qqe hi hl ht,if_neg h]
   ·unfold mLegs;rw [if_neg h];exact r2
theorem Qw6 {l:List Lg} (hl:l.length<=1000000000) (ht:∀x∈l,x.op.length<=1000000):z179.F (l.map lgv)=some (mLegs none l):=by
 obtain ⟨o,r1,r2⟩:=Ql6 hl ht l.length 0 (by omega)
 have hp:prevT l 0=none:=by unfold prevT;rw [dif_neg (by omega)]
 rw [hp,List.drop_zero] at r2
 have e:z179.l0b19 (l.map lgv) (0:Int)=some o:=r1.lfp
 unfold z179.F
 rw [e,<-r2]
 simp only [Zb]
 cases o<;>rfl
theorem Qr7 {b:Int} {to:D3} (hr:rightD to):∀(l:List Lg) (s:Rat) (k:Nat),okL l->Sq k s->Sq (k+149*l.length) (exL b to s l)
 |[],s,k,_,hs=>hs
 |
  x::l,s,k,hk,hs=>by
  have hk':okL l:=λy hy=>hk y (List.mem_cons_of_mem _ hy)
  obtain ⟨h1,h2,h3⟩:=hk x (List.mem_cons_self ..)
  unfold exL
  split
  ·exact hs.mono (by omega)
  ·have:=Qr7 (b:=b) hr l (s+term b to x) (k+148+1) hk' (hs.add (Qj5 h1 h2 hr))
   exact this.mono (by simp only [List.length_cons];omega)
theorem Q0v {t to:D3} (h:rightD t) (h':rightD to):(if cmpD to t<0 then to else t)=minD t to:=by
 unfold minD
 rw [Q9 h h',Q9 h' h]
 by_cases h1:numD to<numD t
 ·rw [if_pos (Q6.2 h1),if_neg (λe=>by rw [Q6] at e;omega)]
 ·rw [if_neg (λe=>h1 (Q6.1 e))]
  by_cases h2:numD t<numD to
  ·rw [if_pos (Q6.2 h2)]
  ·rw [if_neg (λe=>h2 (Q6.1 e))]
   exact Jg h h' (by omega)
theorem Q34 {R:Type} {l:List Lg} {b:Int} {to:D3} {i:Nat} {s:Rat} (hi:i<l.length) (hb:0<=b/\b<=2) (hr:rightD to) (hk:okL l) (hl:l.length<=20000) (ht:∀x∈l,x.op.length<=1000000) (hs:Sq (1+149*i) s) (rec done:(Int×(List Int)×Bool×(List Int))->Option R) :
  z168.j1024a rec done (i:Int) (l.map lgv) to.1 to.2.1 to.2.2 (rf s).1 (rf s).2.1 (rf s).2.2 b (minD l[i].t to).1 (minD l[i].t to).2.1 (minD l[i].t to).2.2 =
   if cmpD l[i].f to>=0 then rec (((i+1:Nat):Int),(rf s).1,(rf s).2.1,(rf s).2.2) else rec (((i+1:Nat):Int),(rf (s+term b to l[i])).1,(rf (s+term b to l[i])).2.1,(rf (s+term b to l[i])).2.2):=by
 obtain ⟨h1,h2,h3⟩:=hk l[i] (List.getElem_mem hi)
 obtain ⟨m1,m2⟩:=Qa9 h2 hr
 have ek:wr .i64 ((i:Int)+1)=((i+1:Nat):Int):=by rw [Qc (by omega) (by omega)];rfl
 have hb1:(0:Int)<=(i:Int):=by omega
 have hb2:(i:Int)<((l.map lgv).length:Int):=by rw [List.length_map];omega
 have hmo:=Qeu l[i].op (ht _ (List.getElem_mem hi))
 have hsz:1+149*i+(16+100+32)<=10000000:=by omega
 unfold z168.j1024a
 simp only [hb1,hb2,and_self,if_true,Zi,Q1 lgv hi,asL0,asL1,asL2,asL3,asL4,asL5,asL6,asL7,Qef,Zb,hmo,Qe7,ek]
 by_cases hc:cmpD l[i].f to>=0
 ·rw [bif_t hc,if_pos hc]
 ·rw [Qa hc,if_neg hc,Qp1 hb h1 m1 (Qow h1 h2 h3 hr hc),Zb]
  rw [Qln,Zb]
  rw [Qbj (Qbr _) (W9 _) (by decide),Zb]
  rw [Qbj ((Qbr _).mul (W9 _)) (Qa0 b h1 m1) (by decide),Zb]
  rw [Qhk hs (((Qbr _).mul (W9 _)).mul (Qa0 b h1 m1)) hsz,Zb]
  rfl
theorem Qrb {R:Type} {l:List Lg} {b:Int} {to:D3} {i:Nat} {s:Rat} (hi:i<l.length) (hb:0<=b/\b<=2) (hr:rightD to) (hk:okL l) (hl:l.length<=20000) (ht:∀x∈l,x.op.length<=1000000) (hs:Sq (1+149*i) s) (rec done:(Int×(List Int)×Bool×(List Int))->Option R) :
  z168.l0P b (l.map lgv) to.1 to.2.1 to.2.2 rec done ((i:Int),(rf s).1,(rf s).2.1,(rf s).2.2) =
   if cmpD l[i].f to>=0 then rec (((i+1:Nat):Int),(rf s).1,(rf s).2.1,(rf s).2.2) else rec (((i+1:Nat):Int),(rf (s+term b to l[i])).1,(rf (s+term b to l[i])).2.1,(rf (s+term b to l[i])).2.2):=by
 obtain ⟨h1,h2,h3⟩:=hk l[i] (List.getElem_mem hi)
 have hb1:(0:Int)<=(i:Int):=by omega
 have hb2:(i:Int)<((l.map lgv).length:Int):=by rw [List.length_map];omega
 have hj:=Q34 hi hb hr hk hl ht hs rec done
 unfold z168.l0P
 simp only
 rw [bif_t hb2,if_pos ⟨hb1,hb2⟩,Zi]
 simp only [Q1 lgv hi,asL0,asL1,asL2,asL3,asL4,asL5,asL6,asL7]
 rw [Qef]
 simp only [Zb]
 have hf:=Q0v h2 hr
 by_cases hc:cmpD to l[i].t<0
 ·rw [if_pos hc] at hf
  rw [bif_t hc]
  rw [<-hf] at hj
  exact hj
 ·rw [if_neg hc] at hf
  rw [Qa hc]
  rw [<-hf] at hj
  exact hj
theorem Q2c {l:List Lg} {b:Int} {to:D3} (hb:0<=b/\b<=2) (hr:rightD to) (hk:okL l) (hl:l.length<=20000) (ht:∀x∈l,x.op.length<=1000000):∀(f i:Nat) (s:Rat),i+f=l.length->Sq (1+149*i) s ->
  Runs (λrec x=>z168.l0P b (l.map lgv) to.1 to.2.1 to.2.2 rec some x) ((i:Int),(rf s).1,(rf s).2.1,(rf s).2.2) ((l.length:Int),(rf (exR b to s (l.drop i))).1,(rf (exR b to s (l.drop i))).2.1,(rf (exR b to s (l.drop i))).2.2):=by
 intro f
 induction f with
 |
  zero=>
  intro i s hf hs
  refine .done λrec=>?_
  rw [List.drop_eq_nil_of_le (by omega),show (i:Int)=(l.length:Int) by omega]
  unfold z168.l0P
  simp only
  rw [Qa (by rw [List.length_map];omega)];rfl
 |
  succ f ih=>
  intro i s hf hs
  have hi:i<l.length:=by omega
  obtain ⟨h1,h2,h3⟩:=hk l[i] (List.getElem_mem hi)
  rw [List.drop_eq_getElem_cons hi]
  by_cases hc:cmpD l[i].f to>=0
  ·have e:exR b to s (l[i]::l.drop (i+1))=exR b to s (l.drop (i+1)):=by rw [exR,if_pos hc]
   rw [e]
   exact .step (λrec=>by rw [Qrb hi hb hr hk hl ht hs,if_pos hc]) (ih (i+1) s (by omega) (hs.mono (by omega)))
  ·have e:exR b to s (l[i]::l.drop (i+1))=exR b to (s+term b to l[i]) (l.drop (i+1)):=by rw [exR,if_neg hc]
   rw [e]
   exact .step (λrec=>by rw [Qrb hi hb hr hk hl ht hs,if_neg hc]) (ih (i+1) (s+term b to l[i]) (by omega) ((hs.add (Qj5 h1 h2 hr)).mono (by omega)))
theorem Qpu {l:List Lg} {b:Int} {to:D3} (hb:0<=b/\b<=2) (hr:rightD to) (hg:mLegs none l=0) (hl:l.length<=20000) (ht:∀x∈l,x.op.length<=1000000):z168.F b (l.map lgv) to.1 to.2.1 to.2.2=some (rf (exL b to 0 l)):=by
 have r:=(Q2c hb hr (W2 hg) hl ht l.length 0 0 (by omega) (Sq.zero (by decide))).lfp
 rw [List.drop_zero,Qhy hr l none 0 hg] at r
 have e0:Rat.divInt 0 1=0:=Rat.zero_divInt 1
 have e:z168.l0 b (l.map lgv) to.1 to.2.1 to.2.2 ((0:Int),(rf 0).1,(rf 0).2.1,(rf 0).2.2)=some ((l.length:Int),(rf (exL b to 0 l)).1,(rf (exL b to 0 l)).2.1,(rf (exL b to 0 l)).2.2):=r
 unfold z168.F
 rw [Yf (by decide) (by decide) (by decide),e0]
 simp only [Zb]
 rw [e]
 rfl
theorem Qau {b:Int} {to:D3} (hr:rightD to) {l:List Lg} (hk:okL l) (hl:l.length<=20000):Sq 4000000 (exL b to 0 l):=
 (Qr7 hr l 0 1 hk (Sq.zero (by decide))).mono (by omega)
theorem Qta {l:List Lg} {b m:Int} {to:D3} (hb:0<=b/\b<=2) (hm:0<=m/\m<=4) (hr:rightD to) (hg:mLegs none l=0) (hl:l.length<=20000) (ht:∀x∈l,x.op.length<=1000000) :
  z170.F b m (l.map lgv) to.1 to.2.1 to.2.2=some (dg (rnd m (exL b to 0 l)).natAbs,neg (rnd m (exL b to 0 l))):=by
 unfold z170.F
 rw [Qpu hb hr hg hl ht]
 simp only [Zb]
 rw [Qff hm (Qau hr (W2 hg) hl) (by decide)]
 rfl
theorem accrue_Posted {l:List Lg} {b m:Int} {to:D3} (hl:l.length<=20000):z172.F b m (l.map lgv) to.1 to.2.1 to.2.2 =
  some (if mExact b l to=0 then (if 0<=m/\m<=4 then (lb (rnd m (exL b to 0 l)).natAbs,neg (rnd m (exL b to 0 l)),0) else ([],false,2)) else ([],false,mExact b l to)):=by
 unfold z172.F
 rw [accrue_Exact hl]
 simp only [Zb]
 by_cases h:mExact b l to=0
 ·rw [if_pos h,if_pos h]
  simp only
  have hx:=h
  unfold mExact at hx
  have hg:mLegs none l=0:=by
   by_cases hh:mLegs none l=0
   ·exact hh
   ·rw [if_pos hh] at hx;exact hx
  rw [if_neg (λe=>e hg)] at hx
  have hr:rightD to:=by
   by_cases hh:rightD to
   ·exact hh
   ·rw [if_pos hh] at hx;simp at hx
  simp only [decide_true,Zn,Zc]
  by_cases hm:0<=m/\m<=4
  ·rw [if_pos hm,round_Whole hm (Qau hr (W2 hg) hl) (by decide)];rfl
  ·rw [if_neg hm,Q36 hm];rfl
 ·rw [if_neg h,if_neg h]
  simp only
  rw [Zf h,Zo,Zd]
open Classical in
noncomputable def dayD (n:Int):D3:=if h:∃x:D3,rightD x/\numD x=n then h.choose else (1,1,1)
theorem Y1 {x:D3} (h:rightD x):dayD (numD x)=x:=by
 have he:∃y:D3,rightD y/\numD y=numD x:=⟨x,h,rfl⟩
 unfold dayD
 rw [dif_pos he]
 exact Jg he.choose_spec.1 h he.choose_spec.2
theorem Qb2 {n:Int} (h:1<=n/\n<=3652059):rightD (dayD n)/\numD (dayD n)=n:=by
 obtain ⟨y,m,d,_,h2,h3⟩:=date_Of h
 have he:∃x:D3,rightD x/\numD x=n:=⟨(y,m,d),h2,h3⟩
 unfold dayD
 rw [dif_pos he]
 exact he.choose_spec
theorem Qsd {x:D3} (h:rightD x) (hn:numD x<3652059):z100.F x.1 x.2.1 x.2.2 1=some ((dayD (numD x+1)).1,(dayD (numD x+1)).2.1,(dayD (numD x+1)).2.2,0):=by
 have b:=Qy h
 rcases month_AddDays (k:=1) h with ⟨y',m',d',e,r,n⟩|⟨n,_⟩
 ·have hd:dayD (numD x+1)=(y',m',d'):=by
   have:=Y1 (x:=(y',m',d')) r
   rw [<-this]
   congr 1
   exact n.symm
  rw [hd,e]
 ·exact absurd (show 1<=num x.1 x.2.1 x.2.2+1/\num x.1 x.2.1 x.2.2+1<=3652059 from ⟨by have:numD x=num x.1 x.2.1 x.2.2:=rfl;omega,by have:numD x=num x.1 x.2.1 x.2.2:=rfl;omega⟩) n
theorem Qp2 {x:D3} (h:rightD x) (hn:numD x<3652059):z143.F x.1 x.2.1 x.2.2=some ((dayD (numD x+1)).1,(dayD (numD x+1)).2.1,(dayD (numD x+1)).2.2,true):=by
 have g:=Q3 h
 have b:=Qy h
 have key:∀y:D3,rightD y->numD y=numD x+1->dayD (numD x+1)=y:=λy hy hn=>by rw [<-hn];exact Y1 hy
 have en:numD x=aheadY x.1+cumD x.1 x.2.1+x.2.2:=rfl
 have hs:=Jj g.1 ⟨g.2.1,g.2.2.1⟩
 have h1:=h.1;have h2:=h.2
 have hd:=Qdg x.1 x.2.1
 unfold z143.F
 rw [Qcx]
 simp only [Zb]
 by_cases c1:x.2.2<dDays x.1 x.2.1
 ·rw [bif_t c1,Qc (by omega) (by omega),key (x.1,x.2.1,x.2.2+1) ⟨by show 1<=x.2.2+1;omega,by show x.2.2+1<=dDays x.1 x.2.1;omega⟩ (by show aheadY x.1+cumD x.1 x.2.1+(x.2.2+1)=_;omega)]
 ·rw [Qa c1]
  by_cases c2:x.2.1<12
  ·have hg:=Qbn g.1 (m:=x.2.1+1) (by omega)
   rw [bif_t c2,Qc (by omega) (by omega),key (x.1,x.2.1+1,1) ⟨Int.le_refl 1,by show 1<=dDays x.1 (x.2.1+1);omega⟩ (by show aheadY x.1+cumD x.1 (x.2.1+1)+1=_;omega)]
  ·have hm:x.2.1=12:=by omega
   have c1':¬x.2.2<dDays x.1 12:=by rw [<-hm];exact c1
   have h2':x.2.2<=dDays x.1 12:=by rw [<-hm];exact h2
   rw [hm] at hs en
   have hs':cumD x.1 13=cumD x.1 12+dDays x.1 12:=hs
   have ha:=Qan x.1
   have hy:x.1<9999:=by
    rcases Int.lt_or_le x.1 9999 with hh|hh
    ·exact hh
    ·exfalso
     have h9:x.1=9999:=by omega
     rw [h9] at ha en hs' c1' h2'
     have e1:aheadY (9999+1)=3652059:=by decide
     omega
   have hg:=Qbn (y:=x.1+1) ⟨by omega,by omega⟩ (m:=1) ⟨by decide,by decide⟩
   rw [Qa c2,Qc (by omega) (by omega),Zt hy,key (x.1+1,1,1) ⟨Int.le_refl 1,by show 1<=dDays (x.1+1) 1;omega⟩ (by
    show aheadY (x.1+1)+cumD (x.1+1) 1+1=_
    rw [Jm]
    omega)]
noncomputable def Qn (b m:Int) (l:List Lg) (n:Int):Int:=rnd m (exL b (dayD n) 0 l)
def intv (z:Int):List V:=[.ints false .u64 (lb z.natAbs),.bool (neg z)]
noncomputable def dayL (b m:Int) (l:List Lg):Int->Nat->List Int
 |_,0=>[]
 |n,k+1=>(Qn b m l (n+1)-Qn b m l n)::dayL b m l (n+1) k
theorem Qaf (m:Int) {q:Rat} {k:Nat} (h:Sq k q):sz (rnd m q).natAbs<=2*k+2:=by
 obtain ⟨a1,_⟩:=Qji m q
 rw [a1]
 have h1:rndN m q.num.natAbs q.den<=q.num.natAbs+1:=by
  have:=Nat.div_le_self q.num.natAbs q.den
  unfold rndN
  split<;>omega
 have h2:=Qu h1
 have h3:=Y7 q.num.natAbs 1
 have h4:sz 1<=1:=sz_le (by decide)
 have:=h.1
 omega
theorem Qck {b m:Int} {l:List Lg} {n:Int} (hn:1<=n/\n<=3652059) (hk:okL l) (hl:l.length<=20000):sz (Qn b m l n).natAbs<=9000000:=by
 have:=Qaf m (Qau (b:=b) (Qb2 hn).1 hk hl)
 unfold Qn;omega
theorem Q1l {l:List Lg} {b m:Int} (hb:0<=b/\b<=2) (hm:0<=m/\m<=4) (hk:okL l) (hl:l.length<=20000) (hne:l≠[]):∀(f:Nat) (d:D3) (out:List (List V)),rightD d->numD d+f=numD (l.getLast hne).t->out.length+f<=100000000 ->
  ∃st,Runs (λrec x=>z162.l0P b m (l.map lgv) rec some x) (out,lb (Qn b m l (numD d)).natAbs,neg (Qn b m l (numD d)),d.1,d.2.1,d.2.2) (out++(dayL b m l (numD d) f).map intv,st):=by
 have hpos:0<l.length:=List.length_pos_iff.2 hne
 have hlast:l.getLast hne=l[l.length-1]'(by omega):=List.getLast_eq_getElem hne
 obtain ⟨k1,k2,k3⟩:=hk (l.getLast hne) (List.getLast_mem hne)
 have bl:=Qy k2
 have hw:wr .i64 ((((l.map lgv).length:Nat):Int)-1)=((l.length-1:Nat):Int):=by rw [List.length_map,Qc (by omega) (by omega)];omega
 have hb1:(0:Int)<=((l.length-1:Nat):Int):=by omega
 have hb2:((l.length-1:Nat):Int)<((l.map lgv).length:Int):=by rw [List.length_map];omega
 have hli:l.length-1<l.length:=by omega
 have head:∀{R:Type} (rec done:((List (List V))×(List Int)×Bool×Int×Int×Int)->Option R) (out:List (List V)) (a:List Int) (ng:Bool) (d:D3),z162.l0P b m (l.map lgv) rec done (out,a,ng,d.1,d.2.1,d.2.2) =
   if d=(l.getLast hne).t then done (out,a,ng,d.1,d.2.1,d.2.2) else ((z100.F d.1 d.2.1 d.2.2 (1:Int)).bind λr1020=>((z161.F b (l.map lgv) r1020.1 r1020.2.1 r1020.2.2.1).bind λr1021=>((z150.F r1021.1 r1021.2.1 r1021.2.2 m).bind λr1022=>((z33.F r1022.1 r1022.2.1 a ng).bind λr1023=>(if ((out).length+(([[(.ints false .u64 r1023.1),(.bool r1023.2)]]:List (List V))).length)*32<=140737488355328 then (rec ((out++([[(.ints false .u64 r1023.1),(.bool r1023.2)]]:List (List V))),r1022.1,r1022.2.1,r1020.1,r1020.2.1,r1020.2.2.1)) else none))))):=λ{R} rec done out a ng d=>by
  unfold z162.l0P
  simp only
  rw [hw]
  simp only [hb1,hb2,and_self,if_true,Zi,Q1 lgv hli,asL0,asL1,asL2,asL3,asL4,asL5,asL6,asL7]
  rw [Qg2 d l[l.length-1].t,hlast]
 intro f
 induction f with
 |
  zero=>
  intro d out hd hf ho
  refine ⟨(lb (Qn b m l (numD d)).natAbs,neg (Qn b m l (numD d)),d.1,d.2.1,d.2.2),.done λrec=>?_⟩
  rw [head,if_pos (Jg hd k2 (by omega))]
  show _=some (out++[],_)
  rw [List.append_nil]
 |
  succ f ih=>
  intro d out hd hf ho
  have bd:=Qy hd
  obtain ⟨r1,r2⟩:=Qb2 (n:=numD d+1) (by omega)
  obtain ⟨st,r⟩:=ih (dayD (numD d+1)) (out++[intv (Qn b m l (numD d+1)-Qn b m l (numD d))]) r1 (by omega) (by simp only [List.length_append,List.length_singleton];omega)
  refine ⟨st,.step (λrec=>?_) (by
   rw [r2,List.append_assoc] at r
   exact r)⟩
  have s1:=Qck (b:=b) (m:=m) (n:=numD d+1) (by omega) hk hl
  have s2:=Qck (b:=b) (m:=m) (n:=numD d) (by omega) hk hl
  have l1:=Qj (Qn b m l (numD d+1)).natAbs
  have l2:=Qj (Qn b m l (numD d)).natAbs
  rw [head,if_neg (λe=>by rw [e] at hf;omega),Qsd hd (by omega)]
  simp only [Zb]
  rw [accrue_exact hb r1 hk hl]
  simp only [Zb]
  rw [round_Whole hm (Qau r1 hk hl) (by decide)]
  simp only [Zb]
  have hp:rnd m (exL b (dayD (numD d+1)) 0 l)=Qn b m l (numD d+1):=rfl
  rw [hp,Qb7 (by omega)]
  simp only [Zb]
  rw [if_pos (by simp only [List.length_singleton];omega)]
  rfl
noncomputable def Wi (b m:Int) (l:List Lg):List Int:=if h:l=[] then [] else dayL b m l (numD (l.head h).f) (numD (l.getLast h).t-numD (l.head h).f).toNat
theorem Qio {b:Int} {x:Lg} {l:List Lg} (h:rightD x.f):exL b x.f 0 (x::l)=0:=by
 unfold exL
 rw [if_pos (by rw [Q9 h h,W7];exact Int.le_refl _)]
theorem accrue_Daily {l:List Lg} {b m:Int} (hb:0<=b/\b<=2) (hm:0<=m/\m<=4) (hg:mLegs none l=0) (hl:l.length<=20000):z162.F b m (l.map lgv)=some ((Wi b m l).map intv,0):=by
 obtain ⟨w,e,hw⟩:=Qjh m
 unfold z162.F
 rw [accrue_Check (by omega),hg]
 simp only [Zb,decide_true,Zn,Zc]
 rw [accrue_good,Zt hb]
 simp only [Zb]
 rw [Zn,Zc,e]
 simp only [Zb]
 rw [hw,Zf (λe=>e hm),Zc]
 unfold z162.j4 Wi
 cases l with
 |nil=>rfl
 |
  cons x l=>
  have hk:=W2 hg
  have hall:=Qc7 (x::l) none hg (by simp)
  obtain ⟨h1,h2,h3,h4⟩:=hall x (List.mem_cons_self ..)
  have b1:=Qy h1
  obtain ⟨k1,k2,k3⟩:=hk ((x::l).getLast (by simp)) (List.getLast_mem (by simp))
  have b2:=Qy k2
  have hz:Qn b m (x::l) (numD x.f)=0:=by
   unfold Qn
   rw [Y1 h1,Qio h1,Qhm]
  obtain ⟨st,r⟩:=Q1l hb hm hk hl (by simp) (numD ((x::l).getLast (by simp)).t-numD x.f).toNat x.f [] h1 (by omega) (by simp only [List.length_nil];omega)
  rw [hz] at r
  have er:z162.l0 b m ((x::l).map lgv) ([],[],false,x.f.1,x.f.2.1,x.f.2.2)=some ([]++(dayL b m (x::l) (numD x.f) (numD ((x::l).getLast (by simp)).t-numD x.f).toNat).map intv,st):=by
   have:=r.lfp
   rw [show Int.natAbs 0=0 from rfl,lb_zero] at this
   exact this
  have g0:((x::l).map lgv).getD 0 []=lgv x:=rfl
  rw [Qa (by rw [List.length_map];simp only [List.length_cons];omega),if_pos (by rw [List.length_map];simp only [List.length_cons];omega)]
  simp only [g0,asL0,asL1,asL2,asL3,asL4,asL5,asL6,asL7]
  rw [er,dif_neg (by simp)]
  simp only [Zb,List.nil_append,List.head_cons]
theorem Qpy:∀{a:List UInt8},Qv a->cutDot a=(a,none)
 |[],_=>rfl
 |
  x::a,h=>by
  have hx:=h x (by simp)
  have ih:=Qpy (a:=a) λy hy=>h y (by simp [hy])
  unfold cutDot
  unfold digit at hx
  rw [if_neg (by rintro rfl;simp at hx),ih]
theorem Q23 {n:Nat} (hl:(txt n).length<=1000):mDec (txt n)=((n:Int),0,0):=by
 have hd:=Qgf n
 have hp:plainB (txt n)=true:=by unfold plainB;rw [Je.2 hd,Zf (Qsy n)];rfl
 have hlead:(decide (1<(txt n).length)&&decide (((txt n).getD 0 0).toNat=48))=false:=by
  by_cases h:n=0
  ·subst h;rfl
  ·obtain ⟨b,s,e,hb⟩:=Qkr h
   rw [e]
   have:((b::s).getD 0 0).toNat=b.toNat:=rfl
   rw [this,Zf hb,Bool.and_false]
 unfold mDec
 rw [if_neg (by omega),Qrd hd,Qpy hd]
 unfold Jk
 simp only [Option.isSome_none,Option.getD_none,List.append_nil,hp,hlead,Zn,Bool.or_false,Bool.false_and,Bool.false_or]
 rw [if_neg (by simp),if_neg (by simp),if_neg (by simp),if_neg (by simp),Jr]
 rfl
theorem Qa8 {n:Nat} (h:n<=1000):mRate (txt n)=((n:Rat)/100,0):=by
 have hl:(txt n).length<=4:=Y2 (by omega) (by decide)
 unfold mRate
 rw [Q23 (by omega),if_neg (by simp),if_neg (by simp only [Nat.pow_zero];omega)]
 show (mkRat (n:Int) (10^0)/100,(0:Int))=_
 have:mkRat (n:Int) (10^0)=(n:Rat):=by
  rw [Nat.pow_zero,Rat.mkRat_eq_div]
  show ((n:Int):Rat)/((1:Nat):Rat)=_
  rw [Rat.intCast_natCast]
  show (n:Rat)/1=_
  grind
 rw [this]
theorem Made.olen {l:List Lg} (h:Made l):∀x∈l,x.op.length<=1000000:=λx hx=>by
 obtain ⟨n,r,e,h1,_,_⟩:=h.nums x hx
 have:(txt n).length<=10:=Y2 (Nat.lt_of_le_of_lt h1 (by decide)) (by decide)
 rw [e];omega
theorem Qjt:∀(l:List Lg) (a:Option D3) (x:Lg),mLegs a l=0->mLeg (if h:l=[] then a else some (l.getLast h).t) x=0->mLegs a (l++[x])=0
 |
  [],a,x,_,hx=>by
  rw [dif_pos rfl] at hx
  show (if mLeg a x≠0 then mLeg a x else 0)=0
  rw [hx];rfl
 |
  y::l,a,x,h,hx=>by
  unfold mLegs at h
  split at h
  ·rename_i h1;exact absurd h h1
  rename_i h1
  rw [dif_neg (by simp)] at hx
  rw [List.cons_append]
  unfold mLegs
  rw [if_neg h1]
  refine Qjt l (some y.t) x h ?_
  by_cases hl:l=[]
  ·subst hl;rw [dif_pos rfl];exact hx
  ·rw [dif_neg hl];rw [List.getLast_cons hl] at hx;exact hx
theorem Qjw {a3:List Int} {i n:Nat} (hi:i<a3.length) (h1:Int.tmod (wr .i64 (a3.getD i 0)) 61=(n:Int)) (hn:n<=60):∀(f d:Nat) (x:D3),d+f=n->rightD x->numD x+f<=3652000 ->
  ∃y,Runs (λrec x=>z144.l2P (i:Int) a3 rec some x) ((d:Int),x.1,x.2.1,x.2.2) ((n:Int),y.1,y.2.1,y.2.2)/\rightD y/\numD y=numD x+f
 |
  0,d,x,hf,hx,hb=>by
  refine ⟨x,.done λrec=>?_,hx,by omega⟩
  have:d=n:=by omega
  subst this
  unfold z144.l2P
  simp only
  rw [if_pos (by omega),Zi,h1,Qa (by omega)]
 |
  f+1,d,x,hf,hx,hb=>by
  have bx:=Qy hx
  obtain ⟨r1,r2⟩:=Qb2 (n:=numD x+1) (by omega)
  obtain ⟨y,q1,q2,q3⟩:=Qjw hi h1 hn f (d+1) (dayD (numD x+1)) (by omega) r1 (by omega)
  refine ⟨y,.step (λrec=>?_) q1,q2,by omega⟩
  unfold z144.l2P
  simp only
  rw [if_pos (by omega),Zi,h1,bif_t (by omega),Qp2 hx (by omega)]
  simp only [Zb]
  rw [Qc (by omega) (by omega)]
  rfl
theorem Qal {v m:Int} (hv:0<=v) (hm:0<m):0<=Int.tmod v m/\Int.tmod v m<m:=by
 rw [Yk hv]
 exact ⟨Int.emod_nonneg _ (by omega),Int.emod_lt_of_pos _ hm⟩
theorem Qb6 {k:IntKind} {l:List Int} {lo hi:Int} (h:∀n∈l,(Lit.int k n).wf=true) (hw:∀n,(Lit.int k n).wf=true->lo<=n/\n<=hi) {i:Nat} (hi':i<l.length):lo<=l.getD i 0/\l.getD i 0<=hi:=by
 have:l.getD i 0=l[i]:=by simp [List.getD,hi']
 rw [this]
 exact hw _ (h _ (List.getElem_mem hi'))
theorem Qn2 {a:Option D3} {x y:D3} {o r:Nat} (hx:rightD x) (hy:rightD y) (h:numD x<=numD y) (ha:∀d,a=some d->x=d) (ho:o<=5000000000) (hr:r<1000):mLeg a (Lg.mk x y (txt o) (txt r))=0:=by
 unfold mLeg
 rw [if_neg (λe=>e ⟨hx,hy⟩),if_neg]
 ·rw [Jz (Nat.le_trans ho (by decide)),Qa8 (by omega)];rfl
 ·rintro (e|e)
  ·have:cmpD x y>0:=e
   rw [Q9 hx hy,Wh] at this;omega
  ·cases a with
   |none=>simp at e
   |some d=>simp [ha d rfl] at e
theorem Qo5 {a3 a4 a5:List Int} (h3:∀i,i<a3.length->0<=a3.getD i 0/\a3.getD i 0<=255) (h4:∀i,i<a4.length->0<=a4.getD i 0/\a4.getD i 0<=4294967295) (h5:∀i,i<a5.length->0<=a5.getD i 0/\a5.getD i 0<=65535) :
  ∀
   (f i:Nat) (l:List Lg) (x:D3),i+f=min a3.length 6->l.length=i->Made l->rightD x->(∀h:l≠[],(l.getLast h).t=x)->numD x+60*f<=3651000 ->
   ∃(l':List Lg) (st:Int×Int×Int×Int),Runs (λrec x=>z144.l0aaP a3 a4 a5 rec some x) ((i:Int),l.map lgv,x.1,x.2.1,x.2.2) (st.1,l'.map lgv,st.2)/\Made l'
 |
  0,i,l,x,hf,hl,hm,hx,hx2,hb=>by
  refine ⟨l,((i:Int),x),.done λrec=>?_,hm⟩
  unfold z144.l0aaP
  simp only
  by_cases hc:i<a3.length
  ·rw [bif_t (by omega),Qa (by omega)]
  ·rw [Qa (by omega)]
 |
  f+1,i,l,x,hf,hl,hm,hx,hx2,hb=>by
  have hi:i<a3.length:=by omega
  have hi6:i<6:=by omega
  have g3:=h3 i hi
  have w3:wr .i64 (a3.getD i 0)=a3.getD i 0:=Qc (by omega) (by omega)
  obtain ⟨t1,t2⟩:=Qal (v:=a3.getD i 0) (m:=61) g3.1 (by decide)
  obtain ⟨n,hn⟩:=Wc t1
  obtain ⟨y,q1,q2,q3⟩:=Qjw hi (n:=n) (by rw [w3];exact hn) (by omega) n 0 x (by omega) hx (by omega)
  have e2:z144.l2 (i:Int) a3 ((0:Int),x.1,x.2.1,x.2.2)=some ((n:Int),y.1,y.2.1,y.2.2):=q1.lfp
  have ek:wr .i64 ((i:Int)+1)=((i+1:Nat):Int):=by rw [Qc (by omega) (by omega)];rfl
  have made:∀{o r:Nat},o<=5000000000->r<1000->Made (l++[Lg.mk x y (txt o) (txt r)]):=λ{o r} ho hr=>by
   refine ⟨by rw [List.length_append,List.length_singleton];omega,Qjt l none _ hm.good (Qn2 hx q2 (by omega) (λd hd=>?_) ho hr),λz hz=>?_⟩
   ·split at hd
    ·simp at hd
    ·rename_i hne
     simp only [Zs] at hd
     rw [<-hd];exact (hx2 hne).symm
   ·rcases List.mem_append.1 hz with hz|hz
    ·exact hm.nums z hz
    ·rw [List.mem_singleton] at hz
     subst hz
     exact ⟨o,r,rfl,ho,rfl,hr⟩
  have hj:∀{o r:Nat},o<=5000000000->r<1000->∀{R:Type} (rec done:(Int×(List (List V))×Int×Int×Int)->Option R),z144.j4015a rec done (o:Int) (r:Int) (l.map lgv) x.1 x.2.1 x.2.2 ((n:Int),y.1,y.2.1,y.2.2) (i:Int) =
    rec (((i+1:Nat):Int),(l++[Lg.mk x y (txt o) (txt r)]).map lgv,y.1,y.2.1,y.2.2):=λ{o r} ho hr {R} rec done=>by
   have s1:sz o<=10:=sz_le (Nat.lt_of_le_of_lt ho (by decide))
   have s2:sz r<=3:=sz_le hr
   have p1:z6.F (dg (o:Int).natAbs) (neg (o:Int))=some (txt o):=by
    rw [W8 (by show sz o<=_;omega)];unfold itxt;rw [if_neg (by omega)];rfl
   have p2:z6.F (dg (r:Int).natAbs) (neg (r:Int))=some (txt r):=by
    rw [W8 (by show sz r<=_;omega)];unfold itxt;rw [if_neg (by omega)];rfl
   unfold z144.j4015a
   rw [Wk (by omega),Zb,Wk (by omega),Zb]
   simp only
   rw [p1,Zb,p2,Zb,if_pos (by simp only [List.length_map,List.length_singleton];omega),ek,List.map_append]
   rfl
  have hj':∀{o:Nat},o<=5000000000->∃r:Nat,r<1000/\∀{R:Type} (rec done:(Int×(List (List V))×Int×Int×Int)->Option R),z144.j4014a rec done (i:Int) a5 (o:Int) (l.map lgv) x.1 x.2.1 x.2.2 ((n:Int),y.1,y.2.1,y.2.2) =
    rec (((i+1:Nat):Int),(l++[Lg.mk x y (txt o) (txt r)]).map lgv,y.1,y.2.1,y.2.2):=λ{o} ho=>by
   by_cases hc:i<a5.length
   ·have g5:=h5 i hc
    have w5:wr .i64 (a5.getD i 0)=a5.getD i 0:=Qc (by omega) (by omega)
    obtain ⟨u1,u2⟩:=Qal (v:=a5.getD i 0) (m:=1000) g5.1 (by decide)
    obtain ⟨r,hr⟩:=Wc u1
    refine ⟨r,by omega,λrec done=>?_⟩
    unfold z144.j4014a
    rw [bif_t (by omega),if_pos (by omega),Zi,w5,hr]
    exact hj ho (by omega) rec done
   ·refine ⟨i,by omega,λrec done=>?_⟩
    unfold z144.j4014a
    rw [Qa (by omega)]
    exact hj ho (by omega) rec done
  have hstep:∃o r:Nat,o<=5000000000/\r<1000/\∀{R:Type} (rec done:(Int×(List (List V))×Int×Int×Int)->Option R),z144.l0aaP a3 a4 a5 rec done ((i:Int),l.map lgv,x.1,x.2.1,x.2.2) =
    rec (((i+1:Nat):Int),(l++[Lg.mk x y (txt o) (txt r)]).map lgv,y.1,y.2.1,y.2.2):=by
   by_cases hc:i<a4.length
   ·have g4:=h4 i hc
    have w4:wr .i64 (a4.getD i 0)=a4.getD i 0:=Qc (by omega) (by omega)
    obtain ⟨o,ho⟩:=Wc g4.1
    obtain ⟨r,hr,hh⟩:=hj' (o:=o) (by omega)
    refine ⟨o,r,by omega,hr,λrec done=>?_⟩
    unfold z144.l0aaP
    simp only
    rw [bif_t (by omega),bif_t (by omega),e2,Zb,bif_t (by omega),if_pos (by omega),Zi,w4,ho]
    exact hh rec done
   ·have w4:wr .i64 ((1000:Int)*(i:Int))=((1000*i:Nat):Int):=by rw [Qc (by omega) (by omega)];omega
    obtain ⟨r,hr,hh⟩:=hj' (o:=1000*i) (by omega)
    refine ⟨1000*i,r,by omega,hr,λrec done=>?_⟩
    unfold z144.l0aaP
    simp only
    rw [bif_t (by omega),bif_t (by omega),e2,Zb,Qa (by omega),w4]
    exact hh rec done
  obtain ⟨o,r,ho,hr,hh⟩:=hstep
  obtain ⟨l',st,k1,k2⟩:=Qo5 h3 h4 h5 f (i+1) (l++[Lg.mk x y (txt o) (txt r)]) y (by omega) (by rw [List.length_append,List.length_singleton];omega) (made ho hr) q2 (λ_=>by rw [List.getLast_append];rfl) (by omega)
  exact ⟨l',st,.step (λrec=>hh rec some) k1,k2⟩
theorem Qhc {a0 a1 a2:Int} {a3 a4 a5:List Int} (h3:∀n∈a3,(Lit.int .u8 n).wf=true) (h4:∀n∈a4,(Lit.int .u32 n).wf=true) (h5:∀n∈a5,(Lit.int .u16 n).wf=true) :
  ∃l:List Lg,z144.F a0 a1 a2 a3 a4 a5=some (l.map lgv)/\Made l:=by
 obtain ⟨y,m,d,e,hr,hy⟩:=Qks (a:=a0) (b:=a1) (c:=a2) (n:=9990) (by decide)
 have hr':rightD (y,m,d):=hr
 have hb:numD (y,m,d)<=3648772:=by
  have h1:numD (y,m,d)<=aheadY (y+1):=(Jo hr').2
  have h2:=Qaj (y:=y+1) (y':=9991) (by omega)
  have h3:aheadY 9991=3648772:=by decide
  omega
 obtain ⟨l,st,r1,r2⟩:=Qo5 (a3:=a3) (a4:=a4) (a5:=a5) (λi hi=>Qb6 h3 (λn h=>by have:=Qs h;omega) hi) (λi hi=>Qb6 h4 (λn h=>by have:=Qc4 h;omega) hi) (λi hi=>Qb6 h5 (λn h=>by have:=Qb9 h;omega) hi)
  (min a3.length 6) 0 [] (y,m,d) (by omega) rfl ⟨by simp,rfl,λx hx=>by simp at hx⟩ hr' (λh=>absurd rfl h) (by omega)
 have er:z144.l0aa a3 a4 a5 ((0:Int),[],y,m,d)=some (st.1,l.map lgv,st.2):=r1.lfp
 refine ⟨l,?_,r2⟩
 unfold z144.F
 rw [e,Zb,er]
 rfl
def wl18:List Lg:=[⟨(2024,1,1),(2024,1,4),[49,48,48,48,48,48],[51,46,54,53]⟩]
theorem Qm3:mLegs none wl18=0:=by decide +kernel
theorem d20 (k:Int) (h:0<=k/\k<=3):dayD (738886+k)=(2024,1,1+k):=by
 have e:numD (2024,1,1+k)=738886+k:=by
  show aheadY 2024+cumD 2024 1+(1+k)=_
  rw [Jm,show aheadY 2024=738885 by decide];omega
 have hr:rightD (2024,1,1+k):=⟨by show 1<=1+k;omega,by show 1+k<=dDays 2024 1;rw [show dDays 2024 1=31 by decide];omega⟩
 rw [<-e];exact Y1 hr
theorem Quu:Qn 1 2 wl18 738886=0:=by
 have:=d20 0 (by decide)
 rw [Int.add_zero] at this
 unfold Qn;rw [this];decide +kernel
theorem Q3u:Qn 1 2 wl18 738887=10:=by
 have:dayD 738887=_:=d20 1 (by decide)
 unfold Qn;rw [this];decide +kernel
theorem Qvj:Qn 1 2 wl18 738888=20:=by
 have:dayD 738888=_:=d20 2 (by decide)
 unfold Qn;rw [this];decide +kernel
theorem Qv6:Qn 1 2 wl18 738889=30:=by
 have:dayD 738889=_:=d20 3 (by decide)
 unfold Qn;rw [this];decide +kernel
theorem asI0 {R:Type} (z:Int) (K:List Int->Option R):V.asInts .u64 ((intv z).getD 0 .undef) K=K (lb z.natAbs):=by simp [intv,V.asInts]
theorem asI1 {R:Type} (z:Int) (K:Bool->Option R):V.asBool ((intv z).getD 1 .undef) K=K (neg z):=by simp [intv,V.asBool]
theorem Q2e:Wi 1 2 wl18=[10,10,10]:=by
 have e1:numD (2024,1,1)=738886:=by
  show aheadY 2024+cumD 2024 1+1=_
  rw [Jm,show aheadY 2024=738885 by decide];rfl
 have e4:numD (2024,1,4)=738889:=by
  show aheadY 2024+cumD 2024 1+4=_
  rw [Jm,show aheadY 2024=738885 by decide];rfl
 unfold Wi
 rw [dif_neg (by simp [wl18])]
 have h1:(wl18.head (by simp [wl18])).f=(2024,1,1):=rfl
 have h2:(wl18.getLast (by simp [wl18])).t=(2024,1,4):=rfl
 rw [h1,h2,e1,e4]
 show dayL 1 2 wl18 738886 3=_
 simp only [dayL]
 rw [show (738886:Int)+1=738887 from rfl,show (738887:Int)+1=738888 from rfl,show (738888:Int)+1=738889 from rfl,Quu,Q3u,Qvj,Qv6]
 rfl
theorem Qa2:z173.F=some true:=by
 have hr:rightD (2024,1,3):=by decide +kernel
 have hx:mExact 1 wl18 (2024,1,3)=0:=by
  unfold mExact
  rw [if_neg (λe=>e Qm3),if_neg (λe=>e hr),if_neg (by simp)]
 have hp:rnd 2 (exL 1 (2024,1,3) 0 wl18)=20:=by decide +kernel
 have e1:z162.F 1 2 (wl18.map lgv)=some ([10,10,10].map intv,0):=by
  rw [accrue_Daily (by decide) (by decide) Qm3 (by decide),Q2e]
 have e2:z172.F 1 2 (wl18.map lgv) 2024 1 3=some (lb 20,neg 20,0):=by
  have:=accrue_Posted (l:=wl18) (b:=1) (m:=2) (to:=(2024,1,3)) (by decide)
  rw [if_pos hx,if_pos (by decide),hp] at this
  exact this
 have e3:z145.F ([⟨(0,0,0),(0,0,0),[],[]⟩].map lgv)=some 11:=by
  rw [accrue_Check (by decide)]
  congr 1
 have t10:z135.F (lb 10) (neg 10)=some [49,48]:=by
  have h:=W4 (z:=10) (Nat.le_trans (sz_le (show Int.natAbs 10<10^2 by decide)) (by decide))
  have e:itxt 10=[49,48]:=by
   unfold itxt
   rw [if_neg (by decide)]
   show txt 10=_
   rw [Qk4 (by decide) (by decide)];rfl
  rw [e] at h;exact h
 have t20:z135.F (lb 20) (neg 20)=some [50,48]:=by
  have h:=W4 (z:=20) (Nat.le_trans (sz_le (show Int.natAbs 20<10^2 by decide)) (by decide))
  have e:itxt 20=[50,48]:=by
   unfold itxt
   rw [if_neg (by decide)]
   show txt 20=_
   rw [Qk4 (by decide) (by decide)];rfl
  rw [e] at h;exact h
 unfold z173.F
 have g1:(([10,10,10]:List Int).map intv).getD 1 []=intv 10:=rfl
 have z10:Int.natAbs 10=10:=rfl
 refine (congrArg (λo=>Option.bind o _) e1).trans ?_
 rw [Zb]
 refine (congrArg (λo=>Option.bind o _) e2).trans ?_
 rw [Zb]
 simp only [decide_true,Zd]
 rw [show (((List.map intv [10,10,10]).length:Nat):Int)=3 from rfl]
 simp only [decide_true,Zd]
 rw [if_pos (by decide),g1,asI0,asI1,z10,t10,Zb]
 simp only [decide_true,Zd]
 rw [t20,Zb]
 simp only [decide_true,Zd]
 refine (congrArg (λo=>Option.bind o _) e3).trans ?_
 rfl
theorem Made.ll {l:List Lg} (h:Made l):Ll l:=⟨by have:=h.len;omega,h.olen⟩
theorem Qr8 {l:List Lg} (hl:l.length<=20000):∀(f t:Nat),t+f=l.length ->
  ∃o,Runs (λrec x=>z180.l1P 0 (l.map lgv) (((l.map lgv).length:Nat):Int) rec some x) (t:Int) o/\((∃n,o=.inl n)\/o=.inr true)
 |0,t,hf=>⟨.inl (t:Int),.done λrec=>by
   unfold z180.l1P
   rw [Qa (by rw [List.length_map];omega)],.inl ⟨_,rfl⟩⟩
 |
  f+1,t,hf=>by
  have hi:t<l.length:=by omega
  have ek:wr .i64 ((t:Int)+1)=((t+1:Nat):Int):=by rw [Qc (by omega) (by omega)];rfl
  have hstep:∀rec:Int->Option (Int⊕Bool),z180.l1P 0 (l.map lgv) (((l.map lgv).length:Nat):Int) rec some (t:Int)=bif decide ((wr .i64 (l[t].t.1-l[t].f.1))>50) then some (.inr true) else rec ((t+1:Nat):Int):=λrec=>by
   unfold z180.l1P
   rw [bif_t (by rw [List.length_map];omega),if_pos (by rw [List.length_map];omega),Zi,Q1 lgv hi]
   simp only [asL0,asL1,asL2,asL3,asL4,asL5,asL6,asL7]
   rw [ek];rfl
  by_cases hc:(wr .i64 (l[t].t.1-l[t].f.1))>50
  ·exact ⟨.inr true,.done λrec=>by rw [hstep,bif_t hc],.inr rfl⟩
  ·obtain ⟨o,r,h⟩:=Qr8 hl f (t+1) (by omega)
   exact ⟨o,.step (λrec=>by rw [hstep,Qa hc]) r,h⟩
theorem Q2x {l:List Lg} (h:Ll l) {to:D3} {b m:Int} (hb:0<=b/\b<=2) (hm:0<=m/\m<=4) (hr:rightD to) (hg:mLegs none l=0) :
  z180.j44 false (lb (rnd m (exL b to 0 l)).natAbs,neg (rnd m (exL b to 0 l)),0) (l.map lgv) ((fr (exL b to 0 l)).1,(fr (exL b to 0 l)).2.1,(fr (exL b to 0 l)).2.2,0) b to.1 to.2.1 to.2.2 m=some true:=by
 obtain ⟨o,r,ho⟩:=Qr8 h.1 l.length 0 (Nat.zero_add _)
 have er:z180.l1 0 (l.map lgv) (((l.map lgv).length:Nat):Int) (0:Int)=some o:=r.lfp
 have hk:=W2 hg
 have hq:=Qau (b:=b) hr hk h.1
 have hs:=Qaf m hq
 unfold z180.j44
 rw [Zc]
 simp only
 rw [er,Zb]
 rcases ho with ⟨n,rfl⟩|rfl
 ·have q1:=hq.1
  have q2:=hq.2
  simp only [decide_true,Zd]
  rw [Qmr (by omega) (by omega),Zb,Qpu hb hr hg h.1 h.2,Zb,Qyr (by omega) (by omega),Zb]
  simp only [decide_true,Zd]
  rw [W4 (by omega),Zb,Qta hb hm hr hg h.1 h.2,Zb]
  simp only
  rw [W8 (by omega),Zb,Zt rfl]
 ·rfl
theorem Qlj:z20.F [] false=some 0:=by
 have h:=W0 0
 rw [show Int.natAbs 0=0 from rfl,lb_zero] at h
 exact h
theorem Q27 {l:List Lg} {to:D3} {b m e:Int} (he:e≠0) (a:List Int×Bool×Int) (ha:a=([],false,e)) :
  z180.j7 ([],false,[],e) e a m (l.map lgv) b to.1 to.2.1 to.2.2=some true:=by
 subst ha
 unfold z180.j7
 simp only [decide_true,Zn,Zc]
 rw [Zf he,Zo,Zd]
 have hs:z147.F [] false []=some 0:=by unfold z147.F;rw [Qlj];rfl
 rw [hs,Zb]
 simp only [decide_true,Zn,Zc]
 rw [Qlj,Zb]
 simp only [decide_true,Zn,Zc,Zd]
theorem Qop {l:List Lg} (h:Ll l) (to:D3) (b m:Int):z180.F (l.map lgv) to.1 to.2.1 to.2.2 b m=some true:=by
 have key:z180.j7 (if mExact b l to=0 then ((fr (exL b to 0 l)).1,(fr (exL b to 0 l)).2.1,(fr (exL b to 0 l)).2.2,0) else ([],false,[],mExact b l to)) (mExact b l to)
   (if mExact b l to=0 then (if 0<=m/\m<=4 then (lb (rnd m (exL b to 0 l)).natAbs,neg (rnd m (exL b to 0 l)),0) else ([],false,2)) else ([],false,mExact b l to)) m (l.map lgv) b to.1 to.2.1 to.2.2=some true:=by
  by_cases he:mExact b l to=0
  ·have hg:mLegs none l=0:=by
    unfold mExact at he
    split at he
    ·rename_i h1;exact absurd he h1
    ·rename_i h1;exact Decidable.not_not.1 h1
   have hr:rightD to:=by
    unfold mExact at he
    rw [if_neg (λe=>e hg)] at he
    split at he
    ·exact absurd he (by decide)
    ·rename_i h1;exact Decidable.not_not.1 h1
   have hb:0<=b/\b<=2:=by
    unfold mExact at he
    rw [if_neg (λe=>e hg),if_neg (λe=>e hr)] at he
    split at he
    ·exact absurd he (by decide)
    ·rename_i h1;exact Decidable.not_not.1 h1
   rw [he,if_pos rfl,if_pos rfl]
   unfold z180.j7
   simp only [decide_true,Zn,Zc]
   by_cases hm:0<=m/\m<=4
   ·rw [if_pos hm,Qa (by omega),Zf (by omega)]
    exact Q2x h hb hm hr hg
   ·rw [if_neg hm]
    have hj:z180.j44 true ([],false,2) (l.map lgv) ((fr (exL b to 0 l)).1,(fr (exL b to 0 l)).2.1,(fr (exL b to 0 l)).2.2,0) b to.1 to.2.1 to.2.2 m=some true:=by
     unfold z180.j44
     simp only [decide_true,Zd]
     rw [Qlj,Zb]
     rfl
    by_cases h0:m<0
    ·rw [bif_t h0];exact hj
    ·rw [Qa h0,Zt (by omega)];exact hj
  ·rw [if_neg he,if_neg he]
   exact Q27 he _ rfl
 unfold z180.F
 rw [accrue_Exact h.1,Zb,accrue_Posted h.1,Zb,Qw6 (by have:=h.1;omega) h.2,Zb,accrue_Check (by have:=h.1;omega),Zb,Zt rfl,Zn,Zc]
 by_cases hg:mLegs none l=0
 ·rw [Zt hg,Zn,Zc,Y3,Zb]
  by_cases hr:rightD to
  ·have hr':right to.1 to.2.1 to.2.2:=hr
   rw [Zt hr',Zn,Zc]
   by_cases hb:0<=b/\b<=2
   ·have e0:mExact b l to=0:=Qd4 hb hr hg
    rw [Qa (by omega),Qa (by omega),hg]
    rw [e0] at key ⊢
    exact key
   ·have e0:mExact b l to=2:=by
     unfold mExact
     rw [if_neg (λe=>e hg),if_neg (λe=>e hr),if_pos hb]
    rw [e0] at key ⊢
    by_cases h0:b<0
    ·rw [bif_t h0];exact key
    ·rw [Qa h0,bif_t (by omega)];exact key
  ·have hr':¬right to.1 to.2.1 to.2.2:=hr
   have e0:mExact b l to=11:=by
    unfold mExact
    rw [if_neg (λe=>e hg),if_pos hr]
   rw [Zf hr',Zo,Zd]
   rw [e0] at key ⊢
   exact key
 ·have e0:mExact b l to=mLegs none l:=by unfold mExact;rw [if_pos hg]
  rw [Zf hg,Zo,Zd]
  rw [e0] at key ⊢
  exact key
theorem Q2m {l:List Lg} (h:Ll l) (to:D3) (T:List Int) (hT:T.length=2) (m:Int):z181.l6b9 (l.map lgv) T ((T.length:Nat):Int) m to.1 to.2.1 to.2.2 0=some (.inl ((2:Nat):Int)):=by
 have step:∀t:Nat,t<2->∀rec:Int->Option (Int⊕Bool),z181.l6b9P (l.map lgv) T ((T.length:Nat):Int) m to.1 to.2.1 to.2.2 rec some (t:Int)=rec ((t+1:Nat):Int):=λt ht rec=>by
  have ek:wr .i64 ((t:Int)+1)=((t+1:Nat):Int):=by rw [Qc (by omega) (by omega)];rfl
  unfold z181.l6b9P
  rw [bif_t (by omega),if_pos (by omega),Qop h,Zb,Zn,Zc,Qop h,Zb,Zn,Zc,ek]
 have r:Runs (λrec x=>z181.l6b9P (l.map lgv) T ((T.length:Nat):Int) m to.1 to.2.1 to.2.2 rec some x) (((0:Nat):Int)) (.inl ((2:Nat):Int)):=
  .step (step 0 (by decide)) (.step (step 1 (by decide)) (.done λrec=>by
   unfold z181.l6b9P
   rw [Qa (by omega)]))
 exact r.lfp
theorem Q19 {l:List Lg} (h:Ll l) (T:List D3) (hT:T.length=2) (b m:Int):z181.l4 (l.map lgv) (T.map dv) (((T.map dv).length:Nat):Int) b m 0=some (.inl ((2:Nat):Int)):=by
 have step:∀t:Nat,t<2->∀rec:Int->Option (Int⊕Bool),z181.l4P (l.map lgv) (T.map dv) (((T.map dv).length:Nat):Int) b m rec some (t:Int)=rec ((t+1:Nat):Int):=λt ht rec=>by
  have ek:wr .i64 ((t:Int)+1)=((t+1:Nat):Int):=by rw [Qc (by omega) (by omega)];rfl
  have hi:t<T.length:=by omega
  unfold z181.l4P
  rw [bif_t (by rw [List.length_map];omega),if_pos (by rw [List.length_map];omega),Zi,Q1 dv hi,asD0,asD1,asD2,Q2m h T[t] _ rfl,Zb]
  simp only
  rw [ek]
 have r:Runs (λrec x=>z181.l4P (l.map lgv) (T.map dv) (((T.map dv).length:Nat):Int) b m rec some x) (((0:Nat):Int)) (.inl ((2:Nat):Int)):=
  .step (step 0 (by decide)) (.step (step 1 (by decide)) (.done λrec=>by
   unfold z181.l4P
   rw [Qa (by rw [List.length_map];omega)]))
 exact r.lfp
def rlv (l:List Lg):List V:=[.recs false 8 (l.map lgv)]
theorem asR0 {R:Type} (x:List Lg) (K:List (List V)->Option R):V.asRecs 8 ((rlv x).getD 0 .undef) K=K (x.map lgv):=by simp [rlv,V.asRecs]
theorem Qxl {L:List (List Lg)} (h:∀l∈L,Ll l) (hL:L.length=3) (d d':D3) (b m:Int):z181.l2 (L.map rlv) (((L.map rlv).length:Nat):Int) b m d.1 d.2.1 d.2.2 d'.1 d'.2.1 d'.2.2 0=some (.inl ((3:Nat):Int)):=by
 have step:∀t:Nat,t<3->∀rec:Int->Option (Int⊕Bool),z181.l2P (L.map rlv) (((L.map rlv).length:Nat):Int) b m d.1 d.2.1 d.2.2 d'.1 d'.2.1 d'.2.2 rec some (t:Int)=rec ((t+1:Nat):Int):=λt ht rec=>by
  have ek:wr .i64 ((t:Int)+1)=((t+1:Nat):Int):=by rw [Qc (by omega) (by omega)];rfl
  have hi:t<L.length:=by omega
  have e4:z181.l4 (L[t].map lgv) ([dv d,dv d']) ((([dv d,dv d'].length:Nat)):Int) b m 0=some (.inl ((2:Nat):Int)):=Q19 (h _ (List.getElem_mem hi)) [d,d'] rfl b m
  unfold z181.l2P
  rw [bif_t (by rw [List.length_map];omega),if_pos (by rw [List.length_map];omega),Zi,Q1 rlv hi,asR0]
  refine (congrArg (λo=>Option.bind o _) e4).trans ?_
  rw [Zb]
  simp only
  rw [ek]
 have r:Runs (λrec x=>z181.l2P (L.map rlv) (((L.map rlv).length:Nat):Int) b m d.1 d.2.1 d.2.2 d'.1 d'.2.1 d'.2.2 rec some x) (((0:Nat):Int)) (.inl ((3:Nat):Int)):=
  .step (step 0 (by decide)) (.step (step 1 (by decide)) (.step (step 2 (by decide)) (.done λrec=>by
   unfold z181.l2P
   rw [Qa (by rw [List.length_map];omega)])))
 exact r.lfp
theorem Qlf {l x y:List Lg} (h:Ll l) (hx:Ll x) (hy:Ll y) {a6:List (List V)} (ha:a6.take (if (4:Int)<((a6.length:Nat):Int) then (4:Int) else ((a6.length:Nat):Int)).toNat=x.map lgv) (b m:Int) (d d':D3) :
  z181.j26 (l.map lgv) a6 (y.map lgv) b m d.1 d.2.1 d.2.2 d'.1 d'.2.1 d'.2.2=some true:=by
 have e:=Qxl (L:=[l,x,y]) (λz hz=>by
  simp only [List.mem_cons,List.not_mem_nil,or_false] at hz
  rcases hz with rfl|rfl|rfl<;>assumption) rfl d d' b m
 unfold z181.j26
 rw [ha]
 refine (congrArg (λo=>Option.bind o _) e).trans ?_
 rw [Zb]
 simp only
 rw [Qa2]
 rfl
theorem Qog {l x y:List Lg} (hM:Made l) (hx:Ll x) (hy:Ll y) {a6:List (List V)} (ha:a6.take (if (4:Int)<((a6.length:Nat):Int) then (4:Int) else ((a6.length:Nat):Int)).toNat=x.map lgv) (b m k:Int) (d:D3) :
  z181.j14 (l.map lgv) k a6 (y.map lgv) b m d.1 d.2.1 d.2.2=some true:=by
 unfold z181.j14
 by_cases hne:l=[]
 ·subst hne
  rw [Qa (by simp)]
  exact Qlf hM.ll hx hy ha b m d d
 ·have hpos:0<l.length:=List.length_pos_iff.2 hne
  have g0:(l.map lgv).getD 0 []=lgv (l.head hne):=by
   cases l with
   |nil=>exact absurd rfl hne
   |cons x l=>rfl
  rw [bif_t (by rw [List.length_map];omega),if_pos (by rw [List.length_map];omega),g0]
  simp only [asL0,asL1,asL2,asL3,asL4,asL5,asL6,asL7]
  have hr:=(W2 hM.good (l.head hne) (List.head_mem hne)).1
  rcases month_AddDays (k:=wr .i64 k) hr with ⟨y',m',d',e,_,_⟩|⟨_,e⟩
  ·rw [e,Zb]
   exact Qlf hM.ll hx hy ha b m d (y',m',d')
  ·rw [e,Zb]
   exact Qlf hM.ll hx hy ha b m d (0,0,0)
theorem Q1n (x y:Lg):((((((((lgv y).set 0 (.int .i64 x.f.1)).set 1 (.int .i64 x.f.2.1)).set 2 (.int .i64 x.f.2.2)).set 3 (.int .i64 x.t.1)).set 4 (.int .i64 x.t.2.1)).set 5 (.int .i64 x.t.2.2)).set 6 (.str x.op)).set 7 (.str x.rt)=lgv x:=rfl
theorem Qms {l x:List Lg} (hM:Made l) (hx:Ll x) {a6:List (List V)} (ha:a6.take (if (4:Int)<((a6.length:Nat):Int) then (4:Int) else ((a6.length:Nat):Int)).toNat=x.map lgv) {j5:Bool} (hj:j5=true->0<l.length/\0<x.length) (b m k:Int) (d:D3) {a13:Int} (h13:0<=a13/\a13<256) :
  z181.j5 j5 (l.map lgv) a6 a13 k b m d.1 d.2.1 d.2.2=some true:=by
 unfold z181.j5
 simp only [List.nil_append]
 cases j5 with
 |
  false=>
  rw [Zc]
  exact Qog hM hx hM.ll ha b m k d
 |
  true=>
  obtain ⟨h1,h2⟩:=hj rfl
  have hlen:=hM.len
  have w13:wr .i64 a13=a13:=Qc (by omega) (by omega)
  obtain ⟨u1,u2⟩:=Qal (v:=a13) (m:=(((l.map lgv).length:Nat):Int)) h13.1 (by rw [List.length_map];omega)
  obtain ⟨n,hn⟩:=Wc u1
  rw [hn] at u2
  have hni:n<l.length:=by rw [List.length_map] at u2;omega
  have g0:(x.map lgv).getD 0 []=lgv x[0]:=by
   cases x with
   |nil=>exact absurd h2 (by simp)
   |cons z x=>rfl
  rw [Zd,if_neg (by rw [List.length_map];omega),ha,if_pos (by rw [List.length_map];omega),g0]
  simp only [asL0,asL1,asL2,asL3,asL4,asL5,asL6,asL7]
  rw [w13,hn,if_pos (by rw [List.length_map];omega),Zi,if_pos (by rw [List.length_map];omega),Q1 lgv hni,Q1n,<-List.map_set]
  exact Qog hM hx (hM.ll.put n (hx.2 _ (List.getElem_mem h2))) ha b m k d
theorem Qqr:∀{L:List (List V)},(∀r∈L,okSL [.i .i64,.i .i64,.i .i64,.i .i64,.i .i64,.i .i64,.s,.s] r)->∃l:List Lg,L=l.map lgv
 |[],_=>⟨[],rfl⟩
 |
  r::L,h=>by
  obtain ⟨l,rfl⟩:=Qqr (L:=L) λx hx=>h x (List.mem_cons_of_mem _ hx)
  obtain ⟨_,_,rfl,⟨n0,rfl,_⟩,_,_,rfl,⟨n1,rfl,_⟩,_,_,rfl,⟨n2,rfl,_⟩,_,_,rfl,⟨n3,rfl,_⟩,_,_,rfl,⟨n4,rfl,_⟩,_,_,rfl,⟨n5,rfl,_⟩,_,_,rfl,⟨s0,rfl,_⟩,_,_,rfl,⟨s1,rfl,_⟩,rfl⟩:=h r (List.mem_cons_self ..)
  exact ⟨⟨(n0,n1,n2),(n3,n4,n5),s0,s1⟩::l,rfl⟩
theorem Qnn {l:List Lg} (hl:l.length<=20000):∀(f t:Nat),t+f=l.length ->
  ∃o,Runs (λrec x=>z181.l0b7P (l.map lgv) (((l.map lgv).length:Nat):Int) rec some x) (t:Int) o/\(((∃n,o=.inl n)/\∀i,t<=i->(h:i<l.length)->l[i].op.length<=200)\/o=.inr true)
 |0,t,hf=>⟨.inl (t:Int),.done λrec=>by
   unfold z181.l0b7P
   rw [Qa (by rw [List.length_map];omega)],.inl ⟨⟨_,rfl⟩,λi h1 h2=>by omega⟩⟩
 |
  f+1,t,hf=>by
  have hi:t<l.length:=by omega
  have ek:wr .i64 ((t:Int)+1)=((t+1:Nat):Int):=by rw [Qc (by omega) (by omega)];rfl
  have hstep:∀rec:Int->Option (Int⊕Bool),z181.l0b7P (l.map lgv) (((l.map lgv).length:Nat):Int) rec some (t:Int)=bif decide ((l[t].op.length:Int)>200) then some (.inr true) else bif decide ((l[t].rt.length:Int)>200) then some (.inr true) else rec ((t+1:Nat):Int):=λrec=>by
   have hb:(0:Int)<=(t:Int)/\(t:Int)<((l.map lgv).length:Int):=by rw [List.length_map];omega
   unfold z181.l0b7P
   rw [bif_t (by rw [List.length_map];omega),if_pos hb,Zi,Q1 lgv hi]
   simp only [asL0,asL1,asL2,asL3,asL4,asL5,asL6,asL7]
   rw [if_pos hb,Qa2,ek]
   rfl
  by_cases hc:((l[t].op.length:Int)>200)
  ·exact ⟨.inr true,.done λrec=>by rw [hstep,bif_t hc],.inr rfl⟩
  ·by_cases hc':((l[t].rt.length:Int)>200)
   ·exact ⟨.inr true,.done λrec=>by rw [hstep,Qa hc,bif_t hc'],.inr rfl⟩
   ·obtain ⟨o,r,h⟩:=Qnn hl f (t+1) (by omega)
    refine ⟨o,.step (λrec=>by rw [hstep,Qa hc,Qa hc']) r,?_⟩
    rcases h with ⟨h1,h2⟩|h
    ·refine .inl ⟨h1,λi h3 h4=>?_⟩
     by_cases e:i=t
     ·subst e;omega
     ·exact h2 i (by omega) h4
    ·exact .inr h
theorem Qzj {a0 a1 a2:Int} {a3 a4 a5:List Int} {a6:List (List V)} {a7 a8 a9 a10 a11 a12 a13:Int} (h3:∀n∈a3,(Lit.int .u8 n).wf=true) (h4:∀n∈a4,(Lit.int .u32 n).wf=true) (h5:∀n∈a5,(Lit.int .u16 n).wf=true)
  (h6:∀r∈a6,okSL [.i .i64,.i .i64,.i .i64,.i .i64,.i .i64,.i .i64,.s,.s] r) (h13:(Lit.int .u8 a13).wf=true):z181.F a0 a1 a2 a3 a4 a5 a6 a7 a8 a9 a10 a11 a12 a13=some true:=by
 obtain ⟨l,e,hM⟩:=Qhc (a0:=a0) (a1:=a1) (a2:=a2) h3 h4 h5
 obtain ⟨L,rfl⟩:=Qqr h6
 have hc:(0:Int)<=(if (4:Int)<(((L.map lgv).length:Nat):Int) then (4:Int) else (((L.map lgv).length:Nat):Int))/\(if (4:Int)<(((L.map lgv).length:Nat):Int) then (4:Int) else (((L.map lgv).length:Nat):Int))<=((L.map lgv).length:Int):=by split<;>omega
 have hk:(if (4:Int)<(((L.map lgv).length:Nat):Int) then (4:Int) else (((L.map lgv).length:Nat):Int)).toNat<=4:=by split<;>omega
 have ha:(L.map lgv).take (if (4:Int)<(((L.map lgv).length:Nat):Int) then (4:Int) else (((L.map lgv).length:Nat):Int)).toNat=(L.take (if (4:Int)<(((L.map lgv).length:Nat):Int) then (4:Int) else (((L.map lgv).length:Nat):Int)).toNat).map lgv:=by rw [List.map_take]
 have hx1:(L.take (if (4:Int)<(((L.map lgv).length:Nat):Int) then (4:Int) else (((L.map lgv).length:Nat):Int)).toNat).length<=4:=by rw [List.length_take];omega
 generalize L.take (if (4:Int)<(((L.map lgv).length:Nat):Int) then (4:Int) else (((L.map lgv).length:Nat):Int)).toNat=x at *
 obtain ⟨o,r,ho⟩:=Qnn (l:=x) (by omega) x.length 0 (Nat.zero_add _)
 have er:z181.l0b7 (x.map lgv) (((x.map lgv).length:Nat):Int) (0:Int)=some o:=r.lfp
 have hlen:=hM.len
 unfold z181.F
 rw [e,Zb,if_pos hc,ha,er,Zb]
 rcases ho with ⟨⟨n,rfl⟩,hx⟩|rfl
 ·have hX:Ll x:=⟨by omega,λy hy=>by
   obtain ⟨i,hi,rfl⟩:=List.getElem_of_mem hy
   have:=hx i (Nat.zero_le _) hi
   omega⟩
  simp only [List.nil_append]
  rw [if_pos (by rw [List.length_map,List.length_nil];omega)]
  refine (?_:(bif _ then _ else _)=_)
  by_cases hp:0<l.length
  ·rw [bif_t (by rw [List.length_map];omega)]
   exact Qms hM hX ha (λh=>⟨hp,by
    have:=of_decide_eq_true h
    rw [List.length_map] at this;omega⟩) a7 a8 a12 (a9,a10,a11) (Qs h13)
  ·rw [Qa (by rw [List.length_map];omega)]
   exact Qms hM hX ha (λh=>by simp at h) a7 a8 a12 (a9,a10,a11) (Qs h13)
 ·rfl
end Go.Proofs.YtgjncgiekniniaaGreatDoor.A
end
section
set_option linter.unusedVariables false
namespace Go.Proofs.YtgjncgiekniniaaGreatDoor.A
open Go
namespace AccrueTells
theorem law (a0:Int) (a1:Int) (a2:Int) (a3:List Int) (a4:List Int) (a5:List Int) (a6:List (List V)) (a7:Int) (a8:Int) (a9:Int) (a10:Int) (a11:Int) (a12:Int) (a13:Int) (h0:(Lit.int .i64 a0).wf=true) (h1:(Lit.int .i64 a1).wf=true) (h2:(Lit.int .i64 a2).wf=true) (h3:(∀n∈a3,(Lit.int .u8 n).wf=true)/\a3.length<=maxLen) (h4:(∀n∈a4,(Lit.int .u32 n).wf=true)/\a4.length<=maxLen) (h5:(∀n∈a5,(Lit.int .u16 n).wf=true)/\a5.length<=maxLen) (h6:(∀r∈a6,okSL [(.i .i64),(.i .i64),(.i .i64),(.i .i64),(.i .i64),(.i .i64),.s,.s] r)/\a6.length<=maxLen) (h7:(Lit.int .i64 a7).wf=true) (h8:(Lit.int .i64 a8).wf=true) (h9:(Lit.int .i64 a9).wf=true) (h10:(Lit.int .i64 a10).wf=true) (h11:(Lit.int .i64 a11).wf=true) (h12:(Lit.int .i16 a12).wf=true) (h13:(Lit.int .u8 a13).wf=true):z181.F a0 a1 a2 a3 a4 a5 a6 a7 a8 a9 a10 a11 a12 a13=some true:=
 Qzj h3.1 h4.1 h5.1 h6.1 h13
end AccrueTells
end Go.Proofs.YtgjncgiekniniaaGreatDoor.A
end
section
set_option maxRecDepth 100000
namespace Go.Proofs.YtgjncgiekniniaaGreatDoor.A
open Go Go.RowKit Go.ChangeShapes Go.WideShapes Go.ChangeAt
noncomputable section
namespace AccrueTells
theorem wide:Q4f Tryz.prog 8 Tryz.f16.params.toList=some [(.agg [.sc (.i .i64),.sc (.i .i64),.sc (.i .i64),.sl [(.i .u8)],.sl [(.i .u32)],.sl [(.i .u16)]]),(.one (.sl [(.i .i64),(.i .i64),(.i .i64),(.i .i64),(.i .i64),(.i .i64),.s,.s])),(.agg [.sc (.i .i64),.sc (.i .i64),.sc (.i .i64),.sc (.i .i64),.sc (.i .i64),.sc (.i .i16),.sc (.i .u8)])]:=by kernel_rfl
theorem readable:Tryz.f16.params.toList.all (λt=>Tryz.prog.readableRec t&&decide (t<Tryz.prog.types.size))=true:=by kernel_rfl
noncomputable def args0:Array Value:=#[.agg #[.int .i64 0,.int .i64 0,.int .i64 0,.slice none 0 0,.slice none 0 0,.slice none 0 0],.slice none 0 0,.agg #[.int .i64 0,.int .i64 0,.int .i64 0,.int .i64 0,.int .i64 0,.int .i16 0,.int .u8 0]]
theorem laid_met (os:Os):laidMet Tryz.prog Rows.accrueTellsRow.laid ((Q4e os).forCall (λ_ _=>0) ⟨#[],args0,[]⟩).memory:=
 laidMet_of_run' 12 (by kernel_rfl) (by kernel_rfl)
theorem reads (os:Os) {H:Type} (enc:TypeId×Value->H):∃ds places,DataW.whole enc Tryz.prog ((Q4e os).forCall (λ_ _=>0) ⟨#[],args0,[]⟩).memory Tryz.f16.params.toList Rows.accrueTellsSpec.vars false args0.toList 12=some (ds,[],places):=
 ⟨[.agg [.agg [.lit (.int .i64 0),.lit (.int .i64 0),.lit (.int .i64 0)],.nil,.nil,.nil],.nil,.agg [.lit (.int .i64 0),.lit (.int .i64 0),.agg [.lit (.int .i64 0),.lit (.int .i64 0),.lit (.int .i64 0)],.lit (.int .i16 0),.lit (.int .u8 0)]],[],by kernel_rfl⟩
theorem plainly (vs:List V) (h:okAL [(.agg [.sc (.i .i64),.sc (.i .i64),.sc (.i .i64),.sl [(.i .u8)],.sl [(.i .u32)],.sl [(.i .u16)]]),(.one (.sl [(.i .i64),(.i .i64),(.i .i64),(.i .i64),(.i .i64),(.i .i64),.s,.s])),(.agg [.sc (.i .i64),.sc (.i .i64),.sc (.i .i64),.sc (.i .i64),.sc (.i .i64),.sc (.i .i16),.sc (.i .u8)])] vs):∃p r,SoundC Tryz.prog 16 vs p/\p.m=some r/\p.enc r=.bool true:=by
 obtain ⟨_,_,rfl,⟨_,rfl,_,_,rfl,⟨a0,rfl,h0⟩,_,_,rfl,⟨a1,rfl,h1⟩,_,_,rfl,⟨a2,rfl,h2⟩,_,_,rfl,⟨a3,rfl,h3⟩,_,_,rfl,⟨a4,rfl,h4⟩,_,_,rfl,⟨a5,rfl,h5⟩,rfl⟩,_,_,rfl,⟨a6,rfl,h6⟩,_,_,rfl,⟨_,rfl,_,_,rfl,⟨a7,rfl,h7⟩,_,_,rfl,⟨a8,rfl,h8⟩,_,_,rfl,⟨a9,rfl,h9⟩,_,_,rfl,⟨a10,rfl,h10⟩,_,_,rfl,⟨a11,rfl,h11⟩,_,_,rfl,⟨a12,rfl,h12⟩,_,_,rfl,⟨a13,rfl,h13⟩,rfl⟩,rfl⟩:=h
 exact ⟨⟨Bool,z181.F a0 a1 a2 a3 a4 a5 a6 a7 a8 a9 a10 a11 a12 a13,z181.enc⟩,true,z181.sound _ _ (by kernel_rfl),law a0 a1 a2 a3 a4 a5 a6 a7 a8 a9 a10 a11 a12 a13 h0 h1 h2 h3 h4 h5 h6 h7 h8 h9 h10 h11 h12 h13,rfl⟩
theorem specFn {H:Type} (ds:List (DataW H)) (h:ds.length=Tryz.f16.params.toList.length):Rows.accrueTellsSpec.fn H ds={results:=[.lit (.bool true)],args:=ds}:=by
 have h:ds.length=3:=h.trans (by kernel_rfl)
 match ds,h with
 |[d0,d1,d2],_=>rfl
theorem clos:Tryz.prog.closure 16=[16,58,95,153,219,61,60,152,113,26,102,64,59,147,213,142,210,258,259,57,146,212,145,36,76,160,223,260,161,200,250,249,251,253,276,252,255,279,289,277,287,278,288,292,283,290,293,285,284,254,158,222,185,164,227,268,183,99,184,104,91,28,114,195,247,74,90,110,24,100,186,245,273,187,38,118,198,248,275,286,291,199,201,69,119,202,120,121,203,204,156,122,123,176,92,163,226,162,188,224,261,262,280,225,263,264,265,266,267,281,68,124,157,130,148,209,228,257,149,214,215,54,140,211,141,151,218,165,229,230,231,65,232,269,78,89,150,216,217,71,73,66,25,101,189,190,246,274,191,75,159,80,81,37,115,196,103,192,235,116,117,63,35,85,170,234,171,172,197,39,125,205,206,256,221,208,126,127,128,207,131,129,41,154,166,233,220,167,168,42,62,155]:=by kernel_rfl
theorem inPlace:(Rows.accrueTellsRow.inPlace == Tryz.prog.inPlace 16)=true:=by unfold Program.inPlace;rw [clos];kernel_rfl
theorem unfollowed:(Rows.accrueTellsRow.unfollowed == Tryz.prog.unfollowed 16)=true:=by unfold Program.unfollowed;rw [clos];kernel_rfl
theorem recurses:(Rows.accrueTellsRow.recurses == Tryz.prog.recurses 16)=true:=by unfold Program.recurses Program.unfollowed;rw [clos];kernel_rfl
theorem named:(Rows.accrueTellsRow.named == Tryz.prog.varsNamed 16)=true:=by unfold Program.varsNamed;rw [clos];kernel_rfl
theorem number:Tryz.prog.funcNamed "chattel/chattellaw18.AccrueTells" = some 16:=by kernel_rfl
theorem goes:false=Rows.accrueTellsRow.goesBy Tryz.prog:=by
 have h:Tryz.prog.goes 16=false:=by unfold Program.goes Program.unfollowed;rw [clos];kernel_rfl
 have e:Rows.accrueTellsRow.goesBy Tryz.prog=((Tryz.prog.funcNamed "chattel/chattellaw18.AccrueTells").any Tryz.prog.goes||false):=by kernel_rfl
 rw [e,number]
 simp [h]
theorem j_wf:Rows.accrueTellsRow.wf (OpenSpec.ofChange (OpenSpec.ofChange Rows.accrueTellsSpec).bare)=true:=by kernel_rfl
theorem j_params:(Tryz.f16.params.all (Tryz.pinned.checked.prog.readableRec ·))=true:=by kernel_rfl
theorem j_vars:namedTie Tryz.pinned.checked.prog Rows.accrueTellsRow.named (OpenSpec.ofChange Rows.accrueTellsSpec).bare.vars=true:=by kernel_rfl
theorem j_stops:(Rows.accrueTellsRow.stops == [])=true:=by kernel_rfl
theorem j_knobs:(Rows.accrueTellsRow.knobs == [])=true:=by kernel_rfl
theorem j_maps:(Rows.accrueTellsRow.maps == (Tryz.f16.params.toList++DataSpec.varTypes Tryz.pinned.checked.prog (OpenSpec.ofChange Rows.accrueTellsSpec).bare.plain).any (Tryz.pinned.checked.prog.mapsRec ·))=true:=by kernel_rfl
theorem j_ifaces:(Rows.accrueTellsRow.ifaces == (Tryz.f16.params.toList++DataSpec.varTypes Tryz.pinned.checked.prog (OpenSpec.ofChange Rows.accrueTellsSpec).bare.plain).any (Tryz.pinned.checked.prog.ifacesRec ·))=true:=by kernel_rfl
theorem j_mapsOut:(Rows.accrueTellsRow.mapsOut == Tryz.pinned.checked.prog.mapsAmong Tryz.f16.resultTypes.toList)=true:=by kernel_rfl
theorem j_loops:(Rows.accrueTellsRow.loops == (Tryz.f16.params.toList++DataSpec.varTypes Tryz.pinned.checked.prog (OpenSpec.ofChange Rows.accrueTellsSpec).bare.plain).any (Tryz.pinned.checked.prog.loopsFrom ·))=true:=by kernel_rfl
theorem j_wideKeys:(Rows.accrueTellsRow.wideKeys == (Tryz.f16.params.toList++DataSpec.varTypes Tryz.pinned.checked.prog (OpenSpec.ofChange Rows.accrueTellsSpec).bare.plain++Tryz.f16.resultTypes.toList).any (Tryz.pinned.checked.prog.wideKeysFrom ·))=true:=by kernel_rfl
theorem j_varsRead:(OpenSpec.ofChange Rows.accrueTellsSpec).bare.vars.all (Tryz.pinned.checked.prog.varReadable ·)=true:=by kernel_rfl
theorem j_results:(Tryz.f16.resultTypes.all λt=>Tryz.pinned.checked.prog.readableRec t&&decide (t<Tryz.pinned.checked.prog.types.size))=true:=by kernel_rfl
theorem j_ifacesOut:(Rows.accrueTellsRow.ifacesOut == Tryz.f16.resultTypes.toList.any (Tryz.pinned.checked.prog.ifacesRec ·))=true:=by kernel_rfl
theorem j_loopsOut:(Rows.accrueTellsRow.loopsOut == Tryz.f16.resultTypes.toList.any (Tryz.pinned.checked.prog.loopsFrom ·))=true:=by kernel_rfl
theorem j_plainKeys:(Rows.accrueTellsRow.plainKeys == Tryz.pinned.checked.prog.plainKeys)=true:=by kernel_rfl
theorem j_short:Rows.accrueTellsRow.shortTexts.isNone=true:=by kernel_rfl
theorem j_lift:(Rows.accrueTellsRow.lifted == Tryz.pinned.checked.prog.liftsFinal)=true:=by kernel_rfl
theorem j_make:(Tryz.pinned.checked.prog.make == some Rows.accrueTellsRow.make)=true:=by kernel_rfl
theorem j_kinds:(Rows.accrueTellsRow.kinds == (if Rows.accrueTellsRow.domain.isEmpty then [] else Tryz.f16.params.toList.map λt=>match Tryz.pinned.checked.prog.underlying t with|some (.int k)=>some k|_=>none))=true:=by kernel_rfl
theorem j_pinned:(Rows.accrueTellsRow.pinned == Rows.accrueTellsRow.pinnedBy)=true:=by kernel_rfl
theorem j_veiled:(Rows.accrueTellsRow.veiled == (Tryz.f16.params.toList++DataSpec.varTypes Tryz.pinned.checked.prog (OpenSpec.ofChange Rows.accrueTellsSpec).bare.plain++Tryz.f16.resultTypes.toList).any (Tryz.pinned.checked.prog.veiledRec ·))=true:=by kernel_rfl
theorem j_veiledFits:Rows.accrueTellsRow.veiledFits Tryz.pinned.checked.prog Tryz.f16.params.toList (Tryz.f16.params.toList++DataSpec.varTypes Tryz.pinned.checked.prog (OpenSpec.ofChange Rows.accrueTellsSpec).bare.plain++Tryz.f16.resultTypes.toList)=true:=by kernel_rfl
theorem joined:joinedFacts Tryz.pinned.checked.prog 16 Tryz.f16 (OpenSpec.ofChange Rows.accrueTellsSpec).bare Rows.accrueTellsRow=true:=by
 unfold joinedFacts
 simp only [Bool.and_eq_true]
 and_intros
 ·exact j_wf
 ·exact laidOut
 ·exact rowed
 ·exact j_params
 ·exact j_vars
 ·exact j_stops
 ·exact Q4j
 ·exact j_knobs
 ·exact Q4l
 ·exact inPlace
 ·exact unfollowed
 ·exact recurses
 ·exact named
 ·exact j_maps
 ·exact j_ifaces
 ·exact j_mapsOut
 ·exact j_loops
 ·exact j_wideKeys
 ·exact j_varsRead
 ·exact j_results
 ·exact j_ifacesOut
 ·exact j_loopsOut
 ·exact j_plainKeys
 ·exact j_short
 ·exact Q4g
 ·exact Q4k
 ·exact j_lift
 ·exact j_make
 ·exact j_kinds
 ·exact j_pinned
 ·exact j_veiled
 ·exact j_veiledFits
theorem lifted (os:Os) (started:os.Started) (H:Type) (enc:TypeId×Value->H) (F:Stop.Interp) :
  ReturnsInHanded {} Tryz.checked os 16 .any ((OpenSpec.ofChange Rows.accrueTellsSpec).preRow enc Tryz.prog Tryz.f16 Rows.accrueTellsRow.domain false Rows.accrueTellsRow.laid) (((OpenSpec.ofChange Rows.accrueTellsSpec).at F).post enc Tryz.prog Tryz.f16 false true false false):=by
 obtain ⟨ds0,places,hx⟩:=reads os enc
 refine returnsInHanded_of_row (C:=Tryz.checked) (s:=OpenSpec.ofChange Rows.accrueTellsSpec) own started (by kernel_rfl) Tryz.func16
  (witness_row_at (enc:=enc) (C:=Tryz.checked) false (Q4e os) args0 rfl (by kernel_rfl) (by kernel_rfl) (by kernel_rfl)
   (OpenSpec.preRow_of_cond 12 hx (by kernel_rfl) (λk hk=>by cases hk) (by kernel_rfl) (laid_met os))) ?_
 intro W base args ds gs before hval hW _ _ _ hL _ _
 exact Q4h Qpd laidOut readable wide (tb:=4) (by kernel_rfl) (by kernel_rfl) rfl specFn plainly W base args ds gs before hval hW
theorem wrapped:Tryz.f16.isWrapper Tryz.pinned.checked.prog Rows.accrueTellsRow.wrapper Rows.accrueTellsRow.mainSum:=by
 unfold Func.isWrapper;first|(rw [if_pos (by decide +kernel)];kernel_rfl)|(rw [if_neg (by decide +kernel)];exact ⟨rfl,rfl⟩)
theorem origin:Tryz.f16.isInstance Tryz.pinned.checked.prog Rows.accrueTellsRow.origin Rows.accrueTellsRow.targs:=of_decide_eq_true (by kernel_rfl)
theorem said:Rows.AccrueTellsSaid:=
 OpenClaim.holds_of_cond 16 Tryz.f16 rfl rfl rfl rfl rfl rfl rfl ⟨rfl,rfl,rfl,rfl,rfl⟩ rfl rfl rfl rfl rfl number Tryz.func16 joined origin wrapped
  (λos started H enc _ F=>by rw [OpenClaim.pre_eq_preRow];exact lifted os started H enc F)
theorem plainRow (f:FuncId) (fn:Func) (hf:Tryz.pinned.checked.prog.funcNamed "chattel/chattellaw18.AccrueTells" = some f) (hfn:Tryz.pinned.checked.prog.funcs[f]? = some fn) :
  false=Tryz.pinned.checked.prog.looks []/\∀(j:Nat) t,fn.params[j]? = some t->Tryz.pinned.checked.prog.wantsStandIn t=false:=by
 obtain rfl:f=16:=Option.some.inj (number.symm.trans hf) |>.symm
 obtain rfl:fn=Tryz.f16:=(Option.some.inj (Tryz.func16.symm.trans hfn)).symm
 refine ⟨Q4m,λj t ht=>?_⟩
 have hall:Tryz.f16.params.toList.all (λt=>!Tryz.prog.wantsStandIn t)=true:=by kernel_rfl
 have:=List.all_eq_true.1 hall t (by simpa using Array.mem_of_getElem? ht)
 exact Bool.not_eq_true' _ |>.mp this
theorem card:Rows.AccrueTellsCardSaid:=
 Claim7.holds_tied_plain_at .later [] _ _ _ _ said (λ_ h=>by cases h) (by kernel_rfl) (λ_ h=>by cases h) accrueTells_row_tie rfl ⟨rfl,rfl⟩ main rfl plainRow goes
end AccrueTells
end
end Go.Proofs.YtgjncgiekniniaaGreatDoor.A
end
