/- Part 2 of the proof of ScriptMany.card. -/
import Derived.Test.YtjfipepaaddlmaaGreatDoorCv1
import Derived.Laws.Externs
set_option linter.unusedVariables false
set_option linter.unusedSimpArgs false
section
set_option maxRecDepth 100000
namespace Go.Proofs.YtjfipepaaddlmaaGreatDoor.A
open Go Go.RowKit
section
variable {P:Program}
theorem Je {O:Nat->Prop} {w:World} {cv:Value} {k:IntKind} {n:Int} (h:Rep0 O w cv (.int k n)):cv=.int k n:=by
 cases h with
 |int=>rfl
 |slice A n' cap v fl cf hf=>simp [flatV] at hf
theorem Jp {O:Nat->Prop} {w:World} {cv:Value} {l:J1} (h:Rep0 O w cv (.str l)):∃s:ByteArray,cv=.string s/\s.data.toList=l:=by
 cases h with
 |str s l h=>exact ⟨s,rfl,h⟩
 |slice A n' cap v fl cf hf=>simp [flatV] at hf
theorem Qns {args:Array Value} (h:args.size=3):args = #[args.getD 0 Go.undef,args.getD 1 Go.undef,args.getD 2 Go.undef]:=by
 apply Array.ext
 ·simp [h]
 ·intro i hi hi'
  have:i=0\/i=1\/i=2:=by simp at hi';omega
  rcases this with rfl|rfl|rfl<;>simp [Z0,h]
theorem Qcn {args:Array Value} (h:args.size=2):args = #[args.getD 0 Go.undef,args.getD 1 Go.undef]:=by
 apply Array.ext
 ·simp [h]
 ·intro i hi hi'
  have:i=0\/i=1:=by simp at hi';omega
  rcases this with rfl|rfl<;>simp [Z0,h]
theorem grown_refl (w:World):w.grownBy w none:=⟨rfl,rfl,rfl,Z5 _,λ_ _ _=>rfl⟩
theorem Qdj {w w':World} (h:Below w.heap.size w w'):w.grownBy w' none:=⟨h.os,h.tape,h.output,h.size,λk hk _=>h.block k hk⟩
theorem Qhk {f:FuncId} {fn:Func} {e:Array Value->Sem Value} (hf:P.funcs[f]? = some fn) (hname:(fn.name == "runtime.NumGoroutine")=false) (hb:fn.body.isNone=true) (hn:Extern.findNext fn=none) (he:Extern.find fn=some e)
  {args:Array Value} {w:World} {cv:Value} {R:Value->World->Prop} (hr:(e args).run P w=.ok cv w) (h:R cv w):CallR P f args w R:=by
 unfold CallR
 rw [run_callFunc_extern hf hname hb hn he,hr]
 exact h
end
def z0.F (x y c:Int):Option (Int×Int):=if 0<=x/\0<=y/\0<=c/\c<=1 then some ((x+y+c)%18446744073709551616,(x+y+c)/18446744073709551616) else none
def z0.enc (r:Int×Int):V:=.tup [.int .u64 r.1,.int .u64 r.2]
def z0.pack:List V->Option Pack
 |[.int .u64 x,.int .u64 y,.int .u64 c]=>some ⟨Int×Int,z0.F x y c,z0.enc⟩
 |_=>none
theorem Qnj {O:Nat->Prop} {w:World} {a b:Int}:Rep0 O w (.tuple #[.int .u64 a,.int .u64 b]) (.tup [.int .u64 a,.int .u64 b]):=by
 refine .tup _ _ (by simp) λj hj=>?_
 have:j=0\/j=1:=by simp at hj;omega
 rcases this with rfl|rfl
 ·exact .int _ _
 ·exact .int _ _
theorem z0.sound (vs:List V) (p:Pack) (h:z0.pack vs=some p):SoundC Tryz.prog 102 vs p:=by
 unfold z0.pack at h
 split at h
 case h_2=>simp at h
 rename_i x y c
 simp only [Zs] at h
 subst h
 intro O w args r hm hs hr hO
 simp only [z0.F] at hm
 split at hm
 case isFalse=>simp at hm
 rename_i hc
 simp only [Zs] at hm
 subst hm
 have h0:=Je (hr 0 (by simp));have h1:=Je (hr 1 (by simp));have h2:=Je (hr 2 (by simp))
 rw [Qns (show args.size=3 by simpa using hs),h0,h1,h2]
 exact Qhk Tryz.func102 (by kernel_rfl) (by kernel_rfl) (by kernel_rfl) (e:=add64Entry) (by kernel_rfl) (run_add64 x y c hc.1 hc.2.1 hc.2.2.1 hc.2.2.2 w) ⟨grown_refl w,Qnj⟩
def z1.F (x y b:Int):Option (Int×Int):=if 0<=x/\0<=y/\y<18446744073709551616/\0<=b/\b<=1 then some ((x-y-b)%18446744073709551616,if x<y+b then 1 else 0) else none
def z1.enc (r:Int×Int):V:=.tup [.int .u64 r.1,.int .u64 r.2]
def z1.pack:List V->Option Pack
 |[.int .u64 x,.int .u64 y,.int .u64 c]=>some ⟨Int×Int,z1.F x y c,z1.enc⟩
 |_=>none
def Qne:Array Value->Sem Value:=λargs=>do
 let (x,y,b) <-Extern.MathBitsCarry.three "Sub64" args
 pure (Extern.MathBitsCarry.pair ((x+Extern.MathBitsCarry.m64-y-b)%Extern.MathBitsCarry.m64) (if x<y+b then 1 else 0))
theorem Qrf {P:Program} (x y b:Nat) (hb:b<=1) (w:World) :
  (Qne #[.int .u64 x,.int .u64 y,.int .u64 b]).run P w =
   .ok (.tuple #[.int .u64 (((x+18446744073709551616-y-b)%18446744073709551616:Nat):Int),.int .u64 ((if x<y+b then 1 else 0:Nat):Int)]) w:=by
 have:b=0\/b=1:=by omega
 rcases this with rfl|rfl<;>rfl
theorem z1.sound (vs:List V) (p:Pack) (h:z1.pack vs=some p):SoundC Tryz.prog 106 vs p:=by
 unfold z1.pack at h
 split at h
 case h_2=>simp at h
 rename_i x y b
 simp only [Zs] at h
 subst h
 intro O w args r hm hs hr hO
 simp only [z1.F] at hm
 split at hm
 case isFalse=>simp at hm
 rename_i hc
 obtain ⟨hx,hy,hy2,hb,hb1⟩:=hc
 simp only [Zs] at hm
 subst hm
 have h0:=Je (hr 0 (by simp));have h1:=Je (hr 1 (by simp));have h2:=Je (hr 2 (by simp))
 rw [Qns (show args.size=3 by simpa using hs),h0,h1,h2]
 obtain ⟨x,rfl⟩:=Int.eq_ofNat_of_zero_le hx
 obtain ⟨y,rfl⟩:=Int.eq_ofNat_of_zero_le hy
 obtain ⟨b,rfl⟩:=Int.eq_ofNat_of_zero_le hb
 refine Qhk Tryz.func106 (by kernel_rfl) (by kernel_rfl) (by kernel_rfl) (e:=Qne) (by kernel_rfl) (Qrf x y b (by omega) w) ⟨grown_refl w,?_⟩
 have e1:(((x+18446744073709551616-y-b)%18446744073709551616:Nat):Int)=((x:Int)-y-b)%18446744073709551616:=by omega
 have e2:((if x<y+b then 1 else 0:Nat):Int)=if (x:Int)<y+b then 1 else 0:=by
  by_cases hlt:x<y+b
  ·rw [if_pos hlt,if_pos (by omega)];rfl
  ·rw [if_neg hlt,if_neg (by omega)];rfl
 rw [e1,e2]
 exact Qnj
def byteIdx (s:J1) (c:UInt8):Int:=
 match (List.range s.length).find? λi=>s.getD i 0 == c with
 |some i=>i
 |none=>-1
def z2.F (s:J1) (c:Int):Option Int:=some (byteIdx s c.toNat.toUInt8)
def z2.enc (r:Int):V:=.int .i64 r
def z2.pack:List V->Option Pack
 |[.str s,.int .u8 c]=>some ⟨Int,z2.F s c,z2.enc⟩
 |_=>none
theorem Qsg {l:List Nat} {p q:Nat->Bool} (h:∀i∈l,p i=q i):l.find? p=l.find? q:=by
 induction l with
 |nil=>rfl
 |
  cons a l ih=>
  simp only [List.find?_cons]
  rw [h a (by simp),ih λi hi=>h i (by simp [hi])]
theorem Qra (s:ByteArray) (c:UInt8):firstIdx s c=byteIdx s.data.toList c:=by
 unfold firstIdx byteIdx
 have hz:s.size=s.data.toList.length:=by rw [Z26];rfl
 have e:((List.range s.data.toList.length).find? λi=>s[i]! == c)=(List.range s.data.toList.length).find? λi=>s.data.toList.getD i 0 == c:=Qsg λi hi=>by
  have hi':i<s.data.toList.length:=by simpa using hi
  have hs:i<s.size:=by rw [hz];exact hi'
  have:s[i]! = s.data.toList.getD i 0:=by
   rw [getElem!_pos s i hs]
   simp only [Zl,Z1 hi',Z45]
   rfl
  rw [this]
 rw [hz,e]
 cases (List.range s.data.toList.length).find? λi=>s.data.toList.getD i 0 == c<;>rfl
theorem z2.sound (vs:List V) (p:Pack) (h:z2.pack vs=some p):SoundC Tryz.prog 230 vs p:=by
 unfold z2.pack at h
 split at h
 case h_2=>simp at h
 rename_i s c
 simp only [Zs] at h
 subst h
 intro O w args r hm hs hr hO
 simp only [z2.F,Zs] at hm
 subst hm
 obtain ⟨s',h0,rfl⟩:=Jp (hr 0 (by simp));have h1:=Je (hr 1 (by simp))
 rw [Qcn (show args.size=2 by simpa using hs),h0,h1]
 refine Qhk Tryz.func230 (by kernel_rfl) (by kernel_rfl) (by kernel_rfl) (e:=Extern.BytealgIndexByte.indexByte) (by kernel_rfl) (run_indexByte_string s' c w) ⟨grown_refl w,?_⟩
 rw [Qra];exact .int _ _
def trimL (l cs:J1):J1:=l.dropWhile (cs.contains ·)
def Qff (l:J1):Bool:=l.all λc=>decide (c.toNat<128)
theorem Qic {l:J1} (h:Qff l=true) (j:Nat) (b:UInt8) (hb:l[j]? = some b):b.toNat<128:=by
 have:=Z14.1 h b (List.mem_of_getElem? hb)
 simpa using this
def z3.F (s cs:J1):Option J1:=if s.length<=9223372036854775807/\cs.length<4294967281/\Qff cs=true then some (Lib.trimS s cs) else none
def z3.enc (r:J1):V:=.str r
def z3.pack:List V->Option Pack
 |[.str s,.str c]=>some ⟨J1,z3.F s c,z3.enc⟩
 |_=>none
theorem Qc3 {P:Program} {g:FuncId} {f:Func} {args:Array Value} {w:World} {R:Value->World->Prop} (hf:P.funcs[g]? = some f) (hb:f.body.isNone=false) (hname:(f.name == "runtime.NumGoroutine")=false)
  (h:Calls P g args w λe w'=>∃cv,e=.returned cv/\R cv w'):CallR P g args w R:=by
 have h1:f.name≠"runtime.NumGoroutine":=by simpa using hname
 have h2:f.body.isSome=true:=by cases hh:f.body<;>simp [hh] at hb ⊢
 unfold CallR
 have:(callFunc g args).run P w=.ok (.enter g args) w:=by
  obtain ⟨c,hc⟩:=Z55.1 h2
  simp [callFunc,go_sem,hf,h1,hc]
 rw [this]
 exact h.mono λe w' ⟨cv,he,hr⟩=>by subst he;exact hr
theorem z3.sound (vs:List V) (p:Pack) (h:z3.pack vs=some p):SoundC Tryz.prog 205 vs p:=by
 unfold z3.pack at h
 split at h
 case h_2=>simp at h
 rename_i s c
 simp only [Zs] at h
 subst h
 intro O w args r hm hs hr hO
 simp only [z3.F] at hm
 split at hm
 case isFalse=>simp at hm
 rename_i hc
 simp only [Zs] at hm
 subst hm
 obtain ⟨s',h0,rfl⟩:=Jp (hr 0 (by simp));obtain ⟨c',h1,rfl⟩:=Jp (hr 1 (by simp))
 rw [Qcn (show args.size=2 by simpa using hs),h0,h1]
 have hz:∀s:ByteArray,s.size=s.data.toList.length:=λs=>by rw [Z26];rfl
 refine Qc3 Tryz.func205 (by kernel_rfl) (by kernel_rfl) ?_
 exact (Any.strings_Trim_laid Tryz.lays160 (by kernel_rfl) s' c' w (by rw [hz];exact hc.1) (by rw [hz];exact hc.2.1) (λj b hb=>Qic hc.2.2 j b hb)).mono λe w' ⟨he,hb⟩=>⟨_,he,Qdj hb,.str _ _ rfl⟩
def z4.F (s cs:J1):Option J1:=if cs.length<4294967281/\Qff cs=true then some (trimL s cs) else none
def z4.enc (r:J1):V:=.str r
def z4.pack:List V->Option Pack
 |[.str s,.str c]=>some ⟨J1,z4.F s c,z4.enc⟩
 |_=>none
theorem z4.sound (vs:List V) (p:Pack) (h:z4.pack vs=some p):SoundC Tryz.prog 163 vs p:=by
 unfold z4.pack at h
 split at h
 case h_2=>simp at h
 rename_i s c
 simp only [Zs] at h
 subst h
 intro O w args r hm hs hr hO
 simp only [z4.F] at hm
 split at hm
 case isFalse=>simp at hm
 rename_i hc
 simp only [Zs] at hm
 subst hm
 obtain ⟨s',h0,rfl⟩:=Jp (hr 0 (by simp));obtain ⟨c',h1,rfl⟩:=Jp (hr 1 (by simp))
 rw [Qcn (show args.size=2 by simpa using hs),h0,h1]
 have hz:∀s:ByteArray,s.size=s.data.toList.length:=λs=>by rw [Z26];rfl
 refine Qc3 Tryz.func163 (by kernel_rfl) (by kernel_rfl) ?_
 exact (Any.strings_TrimLeft_laid Tryz.lays161 (by kernel_rfl) s' c' w (by rw [hz];exact hc.1) (λj b hb=>Qic hc.2 j b hb)).mono λe w' ⟨he,hb⟩=>⟨_,he,Qdj hb,.str _ _ rfl⟩
def z5.F (s:J1) (c:Int):Option J1:=if 0<=c/\c<=9223372036854775807/\(s.length:Int)*c<=140737488355328 then some (Lib.repeatL s c.toNat) else none
def z5.enc (r:J1):V:=.str r
def z5.pack:List V->Option Pack
 |[.str s,.int .i64 c]=>some ⟨J1,z5.F s c,z5.enc⟩
 |_=>none
theorem z5.sound (vs:List V) (p:Pack) (h:z5.pack vs=some p):SoundC Tryz.prog 36 vs p:=by
 unfold z5.pack at h
 split at h
 case h_2=>simp at h
 rename_i s c
 simp only [Zs] at h
 subst h
 intro O w args r hm hs hr hO
 simp only [z5.F] at hm
 split at hm
 case isFalse=>simp at hm
 rename_i hc
 simp only [Zs] at hm
 subst hm
 obtain ⟨s',h0,rfl⟩:=Jp (hr 0 (by simp));have h1:=Je (hr 1 (by simp))
 rw [Qcn (show args.size=2 by simpa using hs),h0,h1]
 obtain ⟨k,rfl⟩:=Int.eq_ofNat_of_zero_le hc.1
 have hz:s'.size=s'.data.toList.length:=by rw [Z26];rfl
 refine Qc3 Tryz.func36 (by kernel_rfl) (by kernel_rfl) ?_
 exact (Any.strings_Repeat Tryz.lays105 Tryz.Builder_Extra_105 s' k w (by omega) (by rw [hz];exact Int.ofNat_le.1 (by rw [Z30];exact hc.2.2))).mono λe w' ⟨he,hb⟩=>⟨_,he,Qdj hb,.str _ _ rfl⟩
def z6.F (l:List J1) (sep:J1):Option J1:=if l.length<=140737488355328/\(Lib.join l sep).length<=140737488355328 then some (Lib.join l sep) else none
def z6.enc (r:J1):V:=.str r
def z6.pack:List V->Option Pack
 |[.strs _ l,.str c]=>some ⟨J1,z6.F l c,z6.enc⟩
 |_=>none
theorem Qpr {O:Nat->Prop} {w:World} {cv:Value} {x:Bool} {l:List J1} (h:Rep0 O w cv (.strs x l)) :
  ∃(A:Option Addr) (cap:Nat),cv=.slice A l.length cap/\l.length<=cap/\((l=[]/\True)\/∃b o,A=some ⟨b,o,none⟩/\b<w.heap.size/\∀(j:Nat) s,l[j]? = some s->w.cell? ⟨b,o+j,none⟩=some (.string ⟨s.toArray⟩)):=by
 cases h with
 |
  slice A n cap v fl cf hf hx hle hm hc ho hr=>
  simp only [flatV,Zs,Z3] at hf
  obtain ⟨rfl,rfl⟩:=hf
  refine ⟨A,cap,rfl,hle,?_⟩
  cases l with
  |nil=>exact .inl ⟨rfl,trivial⟩
  |
   cons x0 l=>
   right
   obtain ⟨a,rfl,_,h0⟩:=hc 0 (by simp)
   have hsp:a.spot=none:=by
    have:a.add 0=a:=rfl
    rw [this] at h0
    unfold World.cell? at h0
    split at h0
    ·cases hsp:a.spot with
     |none=>rfl
     |some q=>simp [hsp] at h0
    ·simp at h0
   have hb:=World.block_lt_of_cell? w _ h0
   obtain ⟨b,o,sp⟩:=a
   simp only at hsp;subst hsp
   refine ⟨b,o,rfl,hb,λj s hj=>?_⟩
   have hjl:j<(x0::l).length:=by
    rcases Z56 j (x0::l).length with h|h
    ·exact h
    ·rw [Z9 h] at hj;simp at hj
   obtain ⟨a',ha',_,hcell⟩:=hc j (by simpa using hjl)
   simp only [Zs] at ha';subst ha'
   rw [Addr.add_lit] at hcell
   rw [hcell]
   have h5:=hr j (by simpa using hjl)
   rw [Z18] at h5
   have e:(x0::l)[j]=s:=by rw [Z1 hjl] at hj;simpa using hj
   rw [e] at h5
   obtain ⟨q,hq,rfl⟩:=Jp h5
   rw [hq]
theorem z6.sound (vs:List V) (p:Pack) (h:z6.pack vs=some p):SoundC Tryz.prog 38 vs p:=by
 unfold z6.pack at h
 split at h
 case h_2=>simp at h
 rename_i x l c
 simp only [Zs] at h
 subst h
 intro O w args r hm hs hr hO
 simp only [z6.F] at hm
 split at hm
 case isFalse=>simp at hm
 rename_i hc
 simp only [Zs] at hm
 subst hm
 obtain ⟨A,cap,h0,hcap,hd⟩:=Qpr (hr 0 (by simp));obtain ⟨c',h1,rfl⟩:=Jp (hr 1 (by simp))
 rw [Qcn (show args.size=2 by simpa using hs),h0,h1]
 refine Qc3 Tryz.func38 (by kernel_rfl) (by kernel_rfl) ?_
 rcases hd with ⟨rfl,_⟩|⟨b,o,rfl,hb,hcell⟩
 ·exact (Any.strings_Join_none Tryz.lays156 Tryz.Builder_Extra_156 A cap c' w).mono λe w' ⟨he,hw⟩=>⟨_,he,by subst hw;exact grown_refl _,.str _ _ rfl⟩
 ·have e1:(l.map λs=>(⟨s.toArray⟩:ByteArray)).map (·.data.toList)=l:=by rw [List.map_map];exact (Z78 λs _=>rfl).trans (List.map_id l)
  have e2:(l.map λs=>(⟨s.toArray⟩:ByteArray)).length=l.length:=by simp
  have:=Any.strings_Join Tryz.lays156 Tryz.Builder_Extra_156 b o cap (l.map λs=>(⟨s.toArray⟩:ByteArray)) c' w (λj y hj=>by
   simp only [Z75,Z20] at hj
   obtain ⟨s,hs',rfl⟩:=hj
   exact hcell j s hs') hb (by rw [e2];exact hc.1) (by rw [e2];exact hcap) (by rw [e1];exact hc.2)
  rw [e1,e2] at this
  exact this.mono λe w' ⟨he,hb⟩=>⟨_,he,Qdj hb,.str _ _ rfl⟩
theorem Qte:SoundP Tryz.prog 135 (copyP 159):=
 Qrp (FunOK.enters ⟨Tryz.func135,rfl,by kernel_rfl⟩) Qvu Quu
end Go.Proofs.YtjfipepaaddlmaaGreatDoor.A
end
section
namespace Go.Proofs.YtjfipepaaddlmaaGreatDoor.A
open Go
def tab:Tab:=
 (.node 146 {d:=.tuple,size:=1,bytes:=0,zero:=[.undef],flat:=[146]} (.node 66 {d:=.tuple,size:=1,bytes:=0,zero:=[.undef],flat:=[66]} (.node 24 {d:=.slice 101,size:=1,bytes:=24,zero:=[(.ints true .u32 [])],flat:=[24]} (.node 9 {d:=.str,size:=1,bytes:=16,zero:=[(.str ([]:J1))],flat:=[9]} (.node 4 {d:=.bool,size:=1,bytes:=1,zero:=[(.bool false)],flat:=[4]} (.node 3 {d:=.int .i64,size:=1,bytes:=8,zero:=[(.int .i64 0)],flat:=[3]} (.node 0 {d:=.tuple,size:=1,bytes:=0,zero:=[.undef],flat:=[0]} .nil .nil) .nil) (.node 5 {d:=.int .u8,size:=1,bytes:=1,zero:=[(.int .u8 0)],flat:=[5]} .nil .nil)) (.node 22 {d:=.array 3 3,size:=3,bytes:=24,zero:=[(.int .i64 0),(.int .i64 0),(.int .i64 0)],flat:=[3,3,3]} (.node 21 {d:=.int .i32,size:=1,bytes:=4,zero:=[(.int .i32 0)],flat:=[21]} (.node 20 {d:=.iface,size:=1,bytes:=16,zero:=[.nili],flat:=[20]} .nil .nil) .nil) (.node 23 {d:=.slice 5,size:=1,bytes:=24,zero:=[(.ints true .u8 [])],flat:=[23]} .nil .nil))) (.node 41 {d:=.struct [(0,1,3),(1,1,3),(2,1,3)],size:=3,bytes:=24,zero:=[(.int .i64 0),(.int .i64 0),(.int .i64 0)],flat:=[3,3,3],eq:=true} (.node 37 {d:=.struct [(0,1,35)],size:=1,bytes:=24,zero:=[(.ints true .u64 [])],flat:=[35]} (.node 35 {d:=.slice 183,size:=1,bytes:=24,zero:=[(.ints true .u64 [])],flat:=[35]} (.node 32 {d:=.int .i64,size:=1,bytes:=8,zero:=[(.int .i64 0)],flat:=[32]} .nil .nil) .nil) (.node 39 {d:=.struct [(0,1,37),(1,1,4)],size:=2,bytes:=32,zero:=[(.ints true .u64 []),(.bool false)],flat:=[35,4]} .nil .nil)) (.node 63 {d:=.slice 70,size:=1,bytes:=24,zero:=[(.recs true 5 [])],flat:=[63]} (.node 47 {d:=.struct [(0,1,45),(1,1,4)],size:=2,bytes:=32,zero:=[(.ints true .i64 []),(.bool false)],flat:=[45,4]} (.node 45 {d:=.slice 3,size:=1,bytes:=24,zero:=[(.ints true .i64 [])],flat:=[45]} .nil .nil) .nil) (.node 64 {d:=.tuple,size:=1,bytes:=0,zero:=[.undef],flat:=[64]} .nil .nil)))) (.node 113 {d:=.tuple,size:=1,bytes:=0,zero:=[.undef],flat:=[113]} (.node 79 {d:=.tuple,size:=1,bytes:=0,zero:=[.undef],flat:=[79]} (.node 76 {d:=.slice 63,size:=1,bytes:=24,zero:=[(.recs true 1 [])],flat:=[76]} (.node 73 {d:=.struct [(0,3,22),(3,1,23),(4,1,23),(5,1,24)],size:=6,bytes:=96,zero:=[(.int .i64 0),(.int .i64 0),(.int .i64 0),(.ints true .u8 []),(.ints true .u8 []),(.ints true .u32 [])],flat:=[3,3,3,23,23,24]} (.node 70 {d:=.struct [(0,1,3),(1,3,41),(4,1,9)],size:=5,bytes:=48,zero:=[(.int .i64 0),(.int .i64 0),(.int .i64 0),(.int .i64 0),(.str ([]:J1))],flat:=[3,3,3,3,9],eq:=true} .nil .nil) .nil) (.node 77 {d:=.tuple,size:=1,bytes:=0,zero:=[.undef],flat:=[77]} .nil .nil)) (.node 99 {d:=.tuple,size:=1,bytes:=0,zero:=[.undef],flat:=[99]} (.node 89 {d:=.slice 9,size:=1,bytes:=24,zero:=[(.strs true [])],flat:=[89]} (.node 81 {d:=.tuple,size:=1,bytes:=0,zero:=[.undef],flat:=[81]} .nil .nil) .nil) (.node 101 {d:=.int .u32,size:=1,bytes:=4,zero:=[(.int .u32 0)],flat:=[101]} .nil .nil))) (.node 140 {d:=.int .i64,size:=1,bytes:=8,zero:=[(.int .i64 0)],flat:=[140]} (.node 137 {d:=.ptr 139,size:=1,bytes:=8,zero:=[.nilp],flat:=[137]} (.node 135 {d:=.tuple,size:=1,bytes:=0,zero:=[.undef],flat:=[135]} (.node 134 {d:=.slice 142,size:=1,bytes:=24,zero:=[(.recs true 3 [])],flat:=[134]} .nil .nil) .nil) (.node 139 {d:=.struct [(0,1,134),(1,1,3),(2,1,3)],size:=3,bytes:=40,zero:=[(.recs true 3 []),(.int .i64 0),(.int .i64 0)],flat:=[134,3,3]} .nil .nil)) (.node 143 {d:=.tuple,size:=1,bytes:=0,zero:=[.undef],flat:=[143]} (.node 142 {d:=.struct [(0,1,140),(1,1,9),(2,1,3)],size:=3,bytes:=32,zero:=[(.int .i64 0),(.str ([]:J1)),(.int .i64 0)],flat:=[140,9,3],eq:=true} .nil .nil) (.node 145 {d:=.slice 149,size:=1,bytes:=24,zero:=[(.recs true 3 [])],flat:=[145]} .nil .nil))))) (.node 219 {d:=.tuple,size:=1,bytes:=0,zero:=[.undef],flat:=[219]} (.node 171 {d:=.tuple,size:=1,bytes:=0,zero:=[.undef],flat:=[171]} (.node 159 {d:=.struct [(0,1,157),(1,1,23)],size:=2,bytes:=32,zero:=[.nilp,.nilsl],flat:=[157,23]} (.node 154 {d:=.tuple,size:=1,bytes:=0,zero:=[.undef],flat:=[154]} (.node 151 {d:=.tuple,size:=1,bytes:=0,zero:=[.undef],flat:=[151]} (.node 149 {d:=.struct [(0,1,3),(1,1,9),(2,1,3)],size:=3,bytes:=32,zero:=[(.int .i64 0),(.str ([]:J1)),(.int .i64 0)],flat:=[3,9,3],eq:=true} .nil .nil) .nil) (.node 157 {d:=.ptr 159,size:=1,bytes:=8,zero:=[.nilp],flat:=[157]} .nil .nil)) (.node 168 {d:=.tuple,size:=1,bytes:=0,zero:=[.undef],flat:=[168]} (.node 162 {d:=.tuple,size:=1,bytes:=0,zero:=[.undef],flat:=[162]} (.node 161 {d:=.iface,size:=1,bytes:=16,zero:=[.nili],flat:=[161]} .nil .nil) .nil) (.node 170 {d:=.int .u64,size:=1,bytes:=8,zero:=[(.int .u64 0)],flat:=[170]} .nil .nil))) (.node 205 {d:=.tuple,size:=1,bytes:=0,zero:=[.undef],flat:=[205]} (.node 189 {d:=.tuple,size:=1,bytes:=0,zero:=[.undef],flat:=[189]} (.node 184 {d:=.tuple,size:=1,bytes:=0,zero:=[.undef],flat:=[184]} (.node 183 {d:=.int .u64,size:=1,bytes:=8,zero:=[(.int .u64 0)],flat:=[183]} .nil .nil) .nil) (.node 199 {d:=.tuple,size:=1,bytes:=0,zero:=[.undef],flat:=[199]} .nil .nil)) (.node 213 {d:=.ptr 70,size:=1,bytes:=8,zero:=[.nilp],flat:=[213]} (.node 210 {d:=.tuple,size:=1,bytes:=0,zero:=[.undef],flat:=[210]} .nil .nil) (.node 218 {d:=.struct [(0,2,47),(2,1,3)],size:=3,bytes:=40,zero:=[(.ints true .i64 []),(.bool false),(.int .i64 0)],flat:=[45,4,3]} .nil .nil)))) (.node 252 {d:=.func,size:=1,bytes:=8,zero:=[.nilf],flat:=[252]} (.node 239 {d:=.tuple,size:=1,bytes:=0,zero:=[.undef],flat:=[239]} (.node 228 {d:=.tuple,size:=1,bytes:=0,zero:=[.undef],flat:=[228]} (.node 227 {d:=.struct [(0,2,47),(2,1,45)],size:=3,bytes:=56,zero:=[(.ints true .i64 []),(.bool false),(.ints true .i64 [])],flat:=[45,4,45]} (.node 225 {d:=.ptr 5,size:=1,bytes:=8,zero:=[.nilp],flat:=[225]} .nil .nil) .nil) (.node 233 {d:=.tuple,size:=1,bytes:=0,zero:=[.undef],flat:=[233]} .nil .nil)) (.node 248 {d:=.tuple,size:=1,bytes:=0,zero:=[.undef],flat:=[248]} (.node 244 {d:=.array 20 5,size:=20,bytes:=20,zero:=[(.int .u8 0),(.int .u8 0),(.int .u8 0),(.int .u8 0),(.int .u8 0),(.int .u8 0),(.int .u8 0),(.int .u8 0),(.int .u8 0),(.int .u8 0),(.int .u8 0),(.int .u8 0),(.int .u8 0),(.int .u8 0),(.int .u8 0),(.int .u8 0),(.int .u8 0),(.int .u8 0),(.int .u8 0),(.int .u8 0)],flat:=[5,5,5,5,5,5,5,5,5,5,5,5,5,5,5,5,5,5,5,5]} (.node 241 {d:=.tuple,size:=1,bytes:=0,zero:=[.undef],flat:=[241]} .nil .nil) .nil) (.node 250 {d:=.tuple,size:=1,bytes:=0,zero:=[.undef],flat:=[250]} .nil .nil))) (.node 264 {d:=.tuple,size:=1,bytes:=0,zero:=[.undef],flat:=[264]} (.node 259 {d:=.tuple,size:=1,bytes:=0,zero:=[.undef],flat:=[259]} (.node 256 {d:=.tuple,size:=1,bytes:=0,zero:=[.undef],flat:=[256]} (.node 255 {d:=.struct [(0,2,39),(2,1,3)],size:=3,bytes:=40,zero:=[(.ints true .u64 []),(.bool false),(.int .i64 0)],flat:=[35,4,3]} .nil .nil) .nil) (.node 263 {d:=.struct [(0,2,39),(2,1,37)],size:=3,bytes:=56,zero:=[(.ints true .u64 []),(.bool false),(.ints true .u64 [])],flat:=[35,4,35]} .nil .nil)) (.node 300 {d:=.array 12 3,size:=12,bytes:=96,zero:=[(.int .i64 0),(.int .i64 0),(.int .i64 0),(.int .i64 0),(.int .i64 0),(.int .i64 0),(.int .i64 0),(.int .i64 0),(.int .i64 0),(.int .i64 0),(.int .i64 0),(.int .i64 0)],flat:=[3,3,3,3,3,3,3,3,3,3,3,3]} (.node 297 {d:=.tuple,size:=1,bytes:=0,zero:=[.undef],flat:=[297]} .nil .nil) (.node 312 {d:=.tuple,size:=1,bytes:=0,zero:=[.undef],flat:=[312]} .nil .nil))))))
noncomputable section
def z7.F (a0:J2) (a1 a2:Int):Option (Int×J1×Int×J2×Int×Int):=
 (bif (decide ((((a0).length:Nat):Int)=0)) then (some ((-1:Int),([]:J1),(0:Int),a0,a1,a1)) else (if (0:Int)<=(0:Int)/\(0:Int)<(a0.length:Int) then (V.asInt .i64 (((a0.getD 0 [])).getD 0 .undef) λc1=>(V.asStr (((a0.getD 0 [])).getD 1 .undef) λc2=>(V.asInt .i64 (((a0.getD 0 [])).getD 2 .undef) λc3=>(if (0:Int)<=(1:Int)/\(1:Int)<=(a0.length:Int) then (some (c1,c2,c3,(a0.drop 1),a1,c3)) else none)))) else none))
def z7.enc (r:Int×J1×Int×J2×Int×Int):V:=(.agg [(.int .i64 r.1),(.str r.2.1),(.int .i64 r.2.2.1)])
def z7.encC (r:Int×J1×Int×J2×Int×Int):J2:=[[(.recs false 3 r.2.2.2.1),(.int .i64 r.2.2.2.2.1),(.int .i64 r.2.2.2.2.2)]]
def z7.pk:J2->List V->Option Qa8
 |[[(.recs _ 3 a0),(.int .i64 a1),(.int .i64 a2)]],[]=>some ⟨Int×J1×Int×J2×Int×Int,z7.F a0 a1 a2,z7.enc,z7.encC⟩
 |_,_=>none
def z8.F (a0:J0):Option (Bool):=
 (some (decide ((((a0).length:Nat):Int)=0)))
def z8.enc (r:Bool):V:=(.bool r)
def z8.pack:List V->Option Pack
 |[(.agg [(.ints _ .u64 a0)])]=>some ⟨Bool,z8.F a0,z8.enc⟩
 |_=>none
def z9.F (a0:Int):Option (Bool):=
 (some (!decide (a0=a0)))
def z9.pack:List V->Option Pack
 |[(.int .i64 a0)]=>some ⟨Bool,z9.F a0,z8.enc⟩
 |_=>none
def z10.F (a0 a1:Int):Option (Int):=
 ((z9.F a0).bind λr1=>((z9.F a1).bind λr2=>(bif r1 then (bif r2 then (some 0) else (some (-1:Int))) else (bif r2 then (some 1) else (bif (decide (a0<a1)) then (some (-1:Int)) else (bif (decide (a0>a1)) then (some 1) else (some 0)))))))
def z10.enc (r:Int):V:=(.int .i64 r)
def z10.pack:List V->Option Pack
 |[(.int .i64 a0),(.int .i64 a1)]=>some ⟨Int,z10.F a0 a1,z10.enc⟩
 |_=>none
def z11.F (a0:Int):Option (Bool):=
 (some (!decide (a0=a0)))
def z11.pack:List V->Option Pack
 |[(.int .u64 a0)]=>some ⟨Bool,z11.F a0,z8.enc⟩
 |_=>none
def z12.F (a0 a1:Int):Option (Int):=
 ((z11.F a0).bind λr1=>((z11.F a1).bind λr2=>(bif r1 then (bif r2 then (some 0) else (some (-1:Int))) else (bif r2 then (some 1) else (bif (decide (a0<a1)) then (some (-1:Int)) else (bif (decide (a0>a1)) then (some 1) else (some 0)))))))
def z12.pack:List V->Option Pack
 |[(.int .u64 a0),(.int .u64 a1)]=>some ⟨Int,z12.F a0 a1,z10.enc⟩
 |_=>none
def z13.l0P (a b:J0) {R:Type} (rec:Int->Option R) (done:((Int)⊕(Int))->Option R):Int->Option R:=λc=>(bif (decide (c>=0)) then (if 0<=c/\c<(a.length:Int) then (if 0<=c/\c<(b.length:Int) then ((z12.F (a.getD (c).toNat 0) (b.getD (c).toNat 0)).bind λd=>(bif (!decide (d=0)) then (done (.inr d)) else (rec (wr .i64 (c-1))))) else none) else none) else (done (.inl c)))
def z13.l0 (a b:J0) (x:Int):Option (((Int)⊕(Int))):=lfp (λrec x=>z13.l0P a b rec some x) x
def z13.F (a0 a1:J0):Option (Int):=
 ((z10.F (((a0).length:Nat):Int) (((a1).length:Nat):Int)).bind λr1=>(bif (!decide (r1=0)) then (some r1) else ((z13.l0 a0 a1 (wr .i64 ((((a0).length:Nat):Int)-1))).bind λo2=>match o2 with | .inl p3=>(some 0) | .inr q4=>(some q4))))
def z13.pack:List V->Option Pack
 |[(.agg [(.ints _ .u64 a0)]),(.agg [(.ints _ .u64 a1)])]=>some ⟨Int,z13.F a0 a1,z10.enc⟩
 |_=>none
def z14.l0P (a:J0) {R:Type} (rec:Int->Option R) (done:(Int)->Option R):Int->Option R:=λb=>(bif (decide (b>0)) then (if 0<=(wr .i64 (b-1))/\(wr .i64 (b-1))<(a.length:Int) then (bif (decide ((a.getD ((wr .i64 (b-1))).toNat 0)=0)) then (rec (wr .i64 (b-1))) else (done b)) else none) else (done b))
def z14.l0 (a:J0) (x:Int):Option ((Int)):=lfp (λrec x=>z14.l0P a rec some x) x
def z14.F (a0:J0):Option (J0):=
 ((z14.l0 a0 (((a0).length:Nat):Int)).bind λo1=>(if 0<=o1/\o1<=o1/\o1<=(a0.length:Int) then (some (a0.take (o1).toNat)) else none))
def z14.enc (r:J0):V:=(.agg [(.ints false .u64 r)])
def z14.pack:List V->Option Pack
 |[(.ints _ .u64 a0)]=>some ⟨J0,z14.F a0,z14.enc⟩
 |_=>none
def z15.F (a0:J0):Option (J0):=
 (if (a0).length*8<=140737488355328 then ((z14.F a0).bind λr1=>(some r1)) else none)
def z15.pack:List V->Option Pack
 |[(.ints _ .u64 a0)]=>some ⟨J0,z15.F a0,z14.enc⟩
 |_=>none
def z16.F (a0:J0):Option (J0):=
 (if (a0).length*8<=140737488355328 then (some a0) else none)
def z16.enc (r:J0):V:=(.ints false .u64 r)
def z16.pack:List V->Option Pack
 |[(.agg [(.ints _ .u64 a0)])]=>some ⟨J0,z16.F a0,z16.enc⟩
 |_=>none
def z17.j8 (j7 j8:Int):Option (Int):=
 (if 0<=(wr .u8 j7)/\(wr .u8 j7)<(([0,1,2,2,3,3,3,3,4,4,4,4,4,4,4,4,5,5,5,5,5,5,5,5,5,5,5,5,5,5,5,5,6,6,6,6,6,6,6,6,6,6,6,6,6,6,6,6,6,6,6,6,6,6,6,6,6,6,6,6,6,6,6,6,7,7,7,7,7,7,7,7,7,7,7,7,7,7,7,7,7,7,7,7,7,7,7,7,7,7,7,7,7,7,7,7,7,7,7,7,7,7,7,7,7,7,7,7,7,7,7,7,7,7,7,7,7,7,7,7,7,7,7,7,7,7,7,7,8,8,8,8,8,8,8,8,8,8,8,8,8,8,8,8,8,8,8,8,8,8,8,8,8,8,8,8,8,8,8,8,8,8,8,8,8,8,8,8,8,8,8,8,8,8,8,8,8,8,8,8,8,8,8,8,8,8,8,8,8,8,8,8,8,8,8,8,8,8,8,8,8,8,8,8,8,8,8,8,8,8,8,8,8,8,8,8,8,8,8,8,8,8,8,8,8,8,8,8,8,8,8,8,8,8,8,8,8,8,8,8,8,8,8,8,8,8,8,8,8,8,8,8,8,8,8,8]:J1).length:Int) then (some (wr .i64 (j8+(wr .i64 ((([0,1,2,2,3,3,3,3,4,4,4,4,4,4,4,4,5,5,5,5,5,5,5,5,5,5,5,5,5,5,5,5,6,6,6,6,6,6,6,6,6,6,6,6,6,6,6,6,6,6,6,6,6,6,6,6,6,6,6,6,6,6,6,6,7,7,7,7,7,7,7,7,7,7,7,7,7,7,7,7,7,7,7,7,7,7,7,7,7,7,7,7,7,7,7,7,7,7,7,7,7,7,7,7,7,7,7,7,7,7,7,7,7,7,7,7,7,7,7,7,7,7,7,7,7,7,7,7,8,8,8,8,8,8,8,8,8,8,8,8,8,8,8,8,8,8,8,8,8,8,8,8,8,8,8,8,8,8,8,8,8,8,8,8,8,8,8,8,8,8,8,8,8,8,8,8,8,8,8,8,8,8,8,8,8,8,8,8,8,8,8,8,8,8,8,8,8,8,8,8,8,8,8,8,8,8,8,8,8,8,8,8,8,8,8,8,8,8,8,8,8,8,8,8,8,8,8,8,8,8,8,8,8,8,8,8,8,8,8,8,8,8,8,8,8,8,8,8,8,8,8,8,8,8,8,8]:J1).getD ((wr .u8 j7)).toNat 0).toNat:Int))))) else none)
def z17.j10 (j9 j10:Int):Option (Int):=
 (if 0<=(wr .u8 j9)/\(wr .u8 j9)<(([0,1,2,2,3,3,3,3,4,4,4,4,4,4,4,4,5,5,5,5,5,5,5,5,5,5,5,5,5,5,5,5,6,6,6,6,6,6,6,6,6,6,6,6,6,6,6,6,6,6,6,6,6,6,6,6,6,6,6,6,6,6,6,6,7,7,7,7,7,7,7,7,7,7,7,7,7,7,7,7,7,7,7,7,7,7,7,7,7,7,7,7,7,7,7,7,7,7,7,7,7,7,7,7,7,7,7,7,7,7,7,7,7,7,7,7,7,7,7,7,7,7,7,7,7,7,7,7,8,8,8,8,8,8,8,8,8,8,8,8,8,8,8,8,8,8,8,8,8,8,8,8,8,8,8,8,8,8,8,8,8,8,8,8,8,8,8,8,8,8,8,8,8,8,8,8,8,8,8,8,8,8,8,8,8,8,8,8,8,8,8,8,8,8,8,8,8,8,8,8,8,8,8,8,8,8,8,8,8,8,8,8,8,8,8,8,8,8,8,8,8,8,8,8,8,8,8,8,8,8,8,8,8,8,8,8,8,8,8,8,8,8,8,8,8,8,8,8,8,8,8,8,8,8,8,8]:J1).length:Int) then (some (wr .i64 (j10+(wr .i64 ((([0,1,2,2,3,3,3,3,4,4,4,4,4,4,4,4,5,5,5,5,5,5,5,5,5,5,5,5,5,5,5,5,6,6,6,6,6,6,6,6,6,6,6,6,6,6,6,6,6,6,6,6,6,6,6,6,6,6,6,6,6,6,6,6,7,7,7,7,7,7,7,7,7,7,7,7,7,7,7,7,7,7,7,7,7,7,7,7,7,7,7,7,7,7,7,7,7,7,7,7,7,7,7,7,7,7,7,7,7,7,7,7,7,7,7,7,7,7,7,7,7,7,7,7,7,7,7,7,8,8,8,8,8,8,8,8,8,8,8,8,8,8,8,8,8,8,8,8,8,8,8,8,8,8,8,8,8,8,8,8,8,8,8,8,8,8,8,8,8,8,8,8,8,8,8,8,8,8,8,8,8,8,8,8,8,8,8,8,8,8,8,8,8,8,8,8,8,8,8,8,8,8,8,8,8,8,8,8,8,8,8,8,8,8,8,8,8,8,8,8,8,8,8,8,8,8,8,8,8,8,8,8,8,8,8,8,8,8,8,8,8,8,8,8,8,8,8,8,8,8,8,8,8,8,8,8]:J1).getD ((wr .u8 j9)).toNat 0).toNat:Int))))) else none)
def z17.j2 (j1 j2:Int):Option (Int):=
 (bif (decide (j1>=65536)) then (bif (decide ((Int.fdiv j1 (2^(min 16 (64:Nat))))>=256)) then (z17.j8 (Int.fdiv (Int.fdiv j1 (2^(min 16 (64:Nat)))) (2^(min 8 (64:Nat)))) (wr .i64 ((wr .i64 (j2+16))+8))) else (z17.j8 (Int.fdiv j1 (2^(min 16 (64:Nat)))) (wr .i64 (j2+16)))) else (bif (decide (j1>=256)) then (z17.j10 (Int.fdiv j1 (2^(min 8 (64:Nat)))) (wr .i64 (j2+8))) else (z17.j10 j1 j2)))
def z17.F (a0:Int):Option (Int):=
 (bif (decide (a0>=4294967296)) then (z17.j2 (Int.fdiv a0 (2^(min 32 (64:Nat)))) 32) else (z17.j2 a0 0))
def z17.pack:List V->Option Pack
 |[(.int .u64 a0)]=>some ⟨Int,z17.F a0,z10.enc⟩
 |_=>none
def z18.F (a0:Int):Option (Int):=
 ((z17.F a0).bind λr1=>(some (wr .i64 ((64:Int)-r1))))
def z18.pack:List V->Option Pack
 |[(.int .u64 a0)]=>some ⟨Int,z18.F a0,z10.enc⟩
 |_=>none
def z19.l0P (a b c:Int) {R:Type} (rec done:(Int×Int)->Option R):(Int×Int)->Option R:=λx=>match x with
 |(d,e)=>(bif (decide (d>=4294967296)) then (bif (decide ((wr .u64 (e+a))>=4294967296)) then (done ((wr .u64 (d-1)),(wr .u64 (e+a)))) else (rec ((wr .u64 (d-1)),(wr .u64 (e+a))))) else (bif (decide ((wr .u64 (d*b))>(wr .u64 ((wr .u64 ((4294967296:Int)*e))+c)))) then (bif (decide ((wr .u64 (e+a))>=4294967296)) then (done ((wr .u64 (d-1)),(wr .u64 (e+a)))) else (rec ((wr .u64 (d-1)),(wr .u64 (e+a))))) else (done (d,e))))
def z19.l0 (a b c:Int) (x:(Int×Int)):Option ((Int×Int)):=lfp (λrec x=>z19.l0P a b c rec some x) x
def z19.l2P (a b c:Int) {R:Type} (rec done:(Int×Int)->Option R):(Int×Int)->Option R:=λx=>match x with
 |(d,e)=>(bif (decide (e>=4294967296)) then (bif (decide ((wr .u64 (d+a))>=4294967296)) then (done ((wr .u64 (d+a)),(wr .u64 (e-1)))) else (rec ((wr .u64 (d+a)),(wr .u64 (e-1))))) else (bif (decide ((wr .u64 (e*b))>(wr .u64 ((wr .u64 ((4294967296:Int)*d))+c)))) then (bif (decide ((wr .u64 (d+a))>=4294967296)) then (done ((wr .u64 (d+a)),(wr .u64 (e-1)))) else (rec ((wr .u64 (d+a)),(wr .u64 (e-1))))) else (done (d,e))))
def z19.l2 (a b c:Int) (x:(Int×Int)):Option ((Int×Int)):=lfp (λrec x=>z19.l2P a b c rec some x) x
def z19.F (a0 a1 a2:Int):Option (Int×Int):=
 (bif (decide (a2=0)) then none else (bif (decide (a2<=a0)) then none else (bif (decide (a0=0)) then (if a2=0 then none else (if a2=0 then none else (some ((wr .u64 (Int.tdiv a1 a2)),(Int.tmod a1 a2))))) else ((z18.F a2).bind λr1=>(if 0<=(wr .u64 r1) then (if 0<=(wr .u64 r1) then (if 0<=(wr .u64 ((64:Int)-(wr .u64 r1))) then (if 0<=(wr .u64 r1) then (if (Int.fdiv (wr .u64 (a2*2^(min ((wr .u64 r1)).toNat (64:Nat)))) (2^(min 32 (64:Nat))))=0 then none else ((z19.l0 (Int.fdiv (wr .u64 (a2*2^(min ((wr .u64 r1)).toNat (64:Nat)))) (2^(min 32 (64:Nat)))) (wr .u64 ((BitVec.ofInt (IntKind.bits .u64) (wr .u64 (a2*2^(min ((wr .u64 r1)).toNat (64:Nat)))) &&& BitVec.ofInt (IntKind.bits .u64) 4294967295).toNat:Int)) (Int.fdiv (wr .u64 (a1*2^(min ((wr .u64 r1)).toNat (64:Nat)))) (2^(min 32 (64:Nat)))) ((wr .u64 (Int.tdiv (wr .u64 ((BitVec.ofInt (IntKind.bits .u64) (wr .u64 (a0*2^(min ((wr .u64 r1)).toNat (64:Nat)))) ||| BitVec.ofInt (IntKind.bits .u64) (Int.fdiv a1 (2^(min ((wr .u64 ((64:Int)-(wr .u64 r1)))).toNat (64:Nat))))).toNat:Int)) (Int.fdiv (wr .u64 (a2*2^(min ((wr .u64 r1)).toNat (64:Nat)))) (2^(min 32 (64:Nat)))))),(wr .u64 ((wr .u64 ((BitVec.ofInt (IntKind.bits .u64) (wr .u64 (a0*2^(min ((wr .u64 r1)).toNat (64:Nat)))) ||| BitVec.ofInt (IntKind.bits .u64) (Int.fdiv a1 (2^(min ((wr .u64 ((64:Int)-(wr .u64 r1)))).toNat (64:Nat))))).toNat:Int))-(wr .u64 ((wr .u64 (Int.tdiv (wr .u64 ((BitVec.ofInt (IntKind.bits .u64) (wr .u64 (a0*2^(min ((wr .u64 r1)).toNat (64:Nat)))) ||| BitVec.ofInt (IntKind.bits .u64) (Int.fdiv a1 (2^(min ((wr .u64 ((64:Int)-(wr .u64 r1)))).toNat (64:Nat))))).toNat:Int)) (Int.fdiv (wr .u64 (a2*2^(min ((wr .u64 r1)).toNat (64:Nat)))) (2^(min 32 (64:Nat))))))*(Int.fdiv (wr .u64 (a2*2^(min ((wr .u64 r1)).toNat (64:Nat)))) (2^(min 32 (64:Nat)))))))))).bind λo2=>(if (Int.fdiv (wr .u64 (a2*2^(min ((wr .u64 r1)).toNat (64:Nat)))) (2^(min 32 (64:Nat))))=0 then none else ((z19.l2 (Int.fdiv (wr .u64 (a2*2^(min ((wr .u64 r1)).toNat (64:Nat)))) (2^(min 32 (64:Nat)))) (wr .u64 ((BitVec.ofInt (IntKind.bits .u64) (wr .u64 (a2*2^(min ((wr .u64 r1)).toNat (64:Nat)))) &&& BitVec.ofInt (IntKind.bits .u64) 4294967295).toNat:Int)) (wr .u64 ((BitVec.ofInt (IntKind.bits .u64) (wr .u64 (a1*2^(min ((wr .u64 r1)).toNat (64:Nat)))) &&& BitVec.ofInt (IntKind.bits .u64) 4294967295).toNat:Int)) ((wr .u64 ((wr .u64 ((wr .u64 ((wr .u64 ((wr .u64 ((BitVec.ofInt (IntKind.bits .u64) (wr .u64 (a0*2^(min ((wr .u64 r1)).toNat (64:Nat)))) ||| BitVec.ofInt (IntKind.bits .u64) (Int.fdiv a1 (2^(min ((wr .u64 ((64:Int)-(wr .u64 r1)))).toNat (64:Nat))))).toNat:Int))*4294967296))+(Int.fdiv (wr .u64 (a1*2^(min ((wr .u64 r1)).toNat (64:Nat)))) (2^(min 32 (64:Nat))))))-(wr .u64 (o2.1*(wr .u64 (a2*2^(min ((wr .u64 r1)).toNat (64:Nat))))))))-(wr .u64 ((wr .u64 (Int.tdiv (wr .u64 ((wr .u64 ((wr .u64 ((wr .u64 ((BitVec.ofInt (IntKind.bits .u64) (wr .u64 (a0*2^(min ((wr .u64 r1)).toNat (64:Nat)))) ||| BitVec.ofInt (IntKind.bits .u64) (Int.fdiv a1 (2^(min ((wr .u64 ((64:Int)-(wr .u64 r1)))).toNat (64:Nat))))).toNat:Int))*4294967296))+(Int.fdiv (wr .u64 (a1*2^(min ((wr .u64 r1)).toNat (64:Nat)))) (2^(min 32 (64:Nat))))))-(wr .u64 (o2.1*(wr .u64 (a2*2^(min ((wr .u64 r1)).toNat (64:Nat)))))))) (Int.fdiv (wr .u64 (a2*2^(min ((wr .u64 r1)).toNat (64:Nat)))) (2^(min 32 (64:Nat))))))*(Int.fdiv (wr .u64 (a2*2^(min ((wr .u64 r1)).toNat (64:Nat)))) (2^(min 32 (64:Nat)))))))),(wr .u64 (Int.tdiv (wr .u64 ((wr .u64 ((wr .u64 ((wr .u64 ((BitVec.ofInt (IntKind.bits .u64) (wr .u64 (a0*2^(min ((wr .u64 r1)).toNat (64:Nat)))) ||| BitVec.ofInt (IntKind.bits .u64) (Int.fdiv a1 (2^(min ((wr .u64 ((64:Int)-(wr .u64 r1)))).toNat (64:Nat))))).toNat:Int))*4294967296))+(Int.fdiv (wr .u64 (a1*2^(min ((wr .u64 r1)).toNat (64:Nat)))) (2^(min 32 (64:Nat))))))-(wr .u64 (o2.1*(wr .u64 (a2*2^(min ((wr .u64 r1)).toNat (64:Nat)))))))) (Int.fdiv (wr .u64 (a2*2^(min ((wr .u64 r1)).toNat (64:Nat)))) (2^(min 32 (64:Nat)))))))).bind λo3=>(if 0<=(wr .u64 r1) then (some ((wr .u64 ((wr .u64 (o2.1*4294967296))+o3.2)),(Int.fdiv (wr .u64 ((wr .u64 ((wr .u64 ((wr .u64 ((wr .u64 ((wr .u64 ((wr .u64 ((BitVec.ofInt (IntKind.bits .u64) (wr .u64 (a0*2^(min ((wr .u64 r1)).toNat (64:Nat)))) ||| BitVec.ofInt (IntKind.bits .u64) (Int.fdiv a1 (2^(min ((wr .u64 ((64:Int)-(wr .u64 r1)))).toNat (64:Nat))))).toNat:Int))*4294967296))+(Int.fdiv (wr .u64 (a1*2^(min ((wr .u64 r1)).toNat (64:Nat)))) (2^(min 32 (64:Nat))))))-(wr .u64 (o2.1*(wr .u64 (a2*2^(min ((wr .u64 r1)).toNat (64:Nat))))))))*4294967296))+(wr .u64 ((BitVec.ofInt (IntKind.bits .u64) (wr .u64 (a1*2^(min ((wr .u64 r1)).toNat (64:Nat)))) &&& BitVec.ofInt (IntKind.bits .u64) 4294967295).toNat:Int))))-(wr .u64 (o3.2*(wr .u64 (a2*2^(min ((wr .u64 r1)).toNat (64:Nat)))))))) (2^(min ((wr .u64 r1)).toNat (64:Nat)))))) else none))))) else none) else none) else none) else none)))))
def z19.enc (r:Int×Int):V:=(.tup [(.int .u64 r.1),(.int .u64 r.2)])
def z19.pack:List V->Option Pack
 |[(.int .u64 a0),(.int .u64 a1),(.int .u64 a2)]=>some ⟨Int×Int,z19.F a0 a1 a2,z19.enc⟩
 |_=>none
def z20.l0P (a:J0) (b:Int) {R:Type} (rec done:(Int×Int×J0)->Option R):(Int×Int×J0)->Option R:=λx=>match x with
 |(c,d,e)=>(bif (decide (d>=0)) then (if 0<=d/\d<(a.length:Int) then ((z19.F c (a.getD (d).toNat 0) b).bind λg=>(if 0<=d/\d<(e.length:Int) then (if (d).toNat<e.length then (rec (g.2,(wr .i64 (d-1)),(e.set (d).toNat g.1))) else none) else none)) else none) else (done (c,d,e)))
def z20.l0 (a:J0) (b:Int) (x:(Int×Int×J0)):Option ((Int×Int×J0)):=lfp (λrec x=>z20.l0P a b rec some x) x
def z20.F (a0:J0) (a1:Int):Option (J0×Int):=
 (if 0<=(((a0).length:Nat):Int)/\(((a0).length:Nat):Int)*8<=140737488355328 then ((z20.l0 a0 a1 ((0:Int),(wr .i64 ((((a0).length:Nat):Int)-1)),(List.replicate ((((a0).length:Nat):Int)).toNat (0:Int)))).bind λo1=>(some (o1.2.2,o1.1))) else none)
def z20.enc (r:J0×Int):V:=(.tup [(.ints false .u64 r.1),(.int .u64 r.2)])
def z20.pack:List V->Option Pack
 |[(.ints _ .u64 a0),(.int .u64 a1)]=>some ⟨J0×Int,z20.F a0 a1,z20.enc⟩
 |_=>none
def z21.F (a0 a1:Int):Option (Int×Int):=
 (some ((wr .u64 ((wr .u64 ((wr .u64 ((Int.fdiv a0 (2^(min 32 (64:Nat))))*(Int.fdiv a1 (2^(min 32 (64:Nat))))))+(Int.fdiv (wr .u64 ((wr .u64 ((Int.fdiv a0 (2^(min 32 (64:Nat))))*(wr .u64 ((BitVec.ofInt (IntKind.bits .u64) a1 &&& BitVec.ofInt (IntKind.bits .u64) 4294967295).toNat:Int))))+(Int.fdiv (wr .u64 ((wr .u64 ((BitVec.ofInt (IntKind.bits .u64) a0 &&& BitVec.ofInt (IntKind.bits .u64) 4294967295).toNat:Int))*(wr .u64 ((BitVec.ofInt (IntKind.bits .u64) a1 &&& BitVec.ofInt (IntKind.bits .u64) 4294967295).toNat:Int)))) (2^(min 32 (64:Nat)))))) (2^(min 32 (64:Nat))))))+(Int.fdiv (wr .u64 ((wr .u64 ((BitVec.ofInt (IntKind.bits .u64) (wr .u64 ((wr .u64 ((Int.fdiv a0 (2^(min 32 (64:Nat))))*(wr .u64 ((BitVec.ofInt (IntKind.bits .u64) a1 &&& BitVec.ofInt (IntKind.bits .u64) 4294967295).toNat:Int))))+(Int.fdiv (wr .u64 ((wr .u64 ((BitVec.ofInt (IntKind.bits .u64) a0 &&& BitVec.ofInt (IntKind.bits .u64) 4294967295).toNat:Int))*(wr .u64 ((BitVec.ofInt (IntKind.bits .u64) a1 &&& BitVec.ofInt (IntKind.bits .u64) 4294967295).toNat:Int)))) (2^(min 32 (64:Nat)))))) &&& BitVec.ofInt (IntKind.bits .u64) 4294967295).toNat:Int))+(wr .u64 ((wr .u64 ((BitVec.ofInt (IntKind.bits .u64) a0 &&& BitVec.ofInt (IntKind.bits .u64) 4294967295).toNat:Int))*(Int.fdiv a1 (2^(min 32 (64:Nat)))))))) (2^(min 32 (64:Nat)))))),(wr .u64 (a0*a1))))
def z21.pack:List V->Option Pack
 |[(.int .u64 a0),(.int .u64 a1)]=>some ⟨Int×Int,z21.F a0 a1,z19.enc⟩
 |_=>none
def z22.F (a0:Int):Option (Bool):=
 (bif (decide (a0<0)) then (some true) else (some (decide (a0>262144))))
def z22.pack:List V->Option Pack
 |[(.int .i64 a0)]=>some ⟨Bool,z22.F a0,z8.enc⟩
 |_=>none
def z23.l0P (a b:Nat) (c d:Int) {R:Type} (rec done:(Int×J0)->Option R):(Int×J0)->Option R:=λx=>match x with
 |(e,g)=>(bif (decide (e<d)) then (if 0<=e/\e<((b:Nat):Int) then (if (a+(e).toNat)<g.length then (if 0<=c then (if 0<=e/\e<((b:Nat):Int) then (if (a+(e).toNat)<g.length then (bif (decide ((wr .i64 (e+1))<((b:Nat):Int))) then (if 0<=e/\e<((b:Nat):Int) then (if (a+(e).toNat)<(g.set (a+(e).toNat) (Int.fdiv (g.getD (a+(e).toNat) 0) (2^(min (c).toNat (64:Nat))))).length then (if 0<=(wr .i64 (e+1))/\(wr .i64 (e+1))<((b:Nat):Int) then (if (a+((wr .i64 (e+1))).toNat)<(g.set (a+(e).toNat) (Int.fdiv (g.getD (a+(e).toNat) 0) (2^(min (c).toNat (64:Nat))))).length then (if 0<=(wr .u64 ((64:Int)-c)) then (if 0<=e/\e<((b:Nat):Int) then (if (a+(e).toNat)<(g.set (a+(e).toNat) (Int.fdiv (g.getD (a+(e).toNat) 0) (2^(min (c).toNat (64:Nat))))).length then (rec ((wr .i64 (e+1)),((g.set (a+(e).toNat) (Int.fdiv (g.getD (a+(e).toNat) 0) (2^(min (c).toNat (64:Nat))))).set (a+(e).toNat) (wr .u64 ((BitVec.ofInt (IntKind.bits .u64) ((g.set (a+(e).toNat) (Int.fdiv (g.getD (a+(e).toNat) 0) (2^(min (c).toNat (64:Nat))))).getD (a+(e).toNat) 0) ||| BitVec.ofInt (IntKind.bits .u64) (wr .u64 (((g.set (a+(e).toNat) (Int.fdiv (g.getD (a+(e).toNat) 0) (2^(min (c).toNat (64:Nat))))).getD (a+((wr .i64 (e+1))).toNat) 0)*2^(min ((wr .u64 ((64:Int)-c))).toNat (64:Nat))))).toNat:Int))))) else none) else none) else none) else none) else none) else none) else none) else (rec ((wr .i64 (e+1)),(g.set (a+(e).toNat) (Int.fdiv (g.getD (a+(e).toNat) 0) (2^(min (c).toNat (64:Nat)))))))) else none) else none) else none) else none) else none) else (done (e,g)))
def z23.l0 (a b:Nat) (c d:Int) (x:(Int×J0)):Option ((Int×J0)):=lfp (λrec x=>z23.l0P a b c d rec some x) x
def z23.F (a0:J0) (a1:Int):Option (J0×Int):=
 ((z22.F a1).bind λr1=>(bif r1 then (some ([],(2:Int))) else (if (a0).length*8<=140737488355328 then (if 0<=(if (((a0).length:Nat):Int)<(wr .i64 (Int.tdiv a1 64)) then (((a0).length:Nat):Int) else (wr .i64 (Int.tdiv a1 64)))/\(if (((a0).length:Nat):Int)<(wr .i64 (Int.tdiv a1 64)) then (((a0).length:Nat):Int) else (wr .i64 (Int.tdiv a1 64)))<=((a0).length:Int) then ((z23.l0 ((if (((a0).length:Nat):Int)<(wr .i64 (Int.tdiv a1 64)) then (((a0).length:Nat):Int) else (wr .i64 (Int.tdiv a1 64)))).toNat ((a0).length-((if (((a0).length:Nat):Int)<(wr .i64 (Int.tdiv a1 64)) then (((a0).length:Nat):Int) else (wr .i64 (Int.tdiv a1 64)))).toNat) (wr .u64 (Int.tmod a1 64)) ((((a0).length-((if (((a0).length:Nat):Int)<(wr .i64 (Int.tdiv a1 64)) then (((a0).length:Nat):Int) else (wr .i64 (Int.tdiv a1 64)))).toNat):Nat):Int) ((0:Int),a0)).bind λo2=>((z15.F ((o2.2.drop ((if (((a0).length:Nat):Int)<(wr .i64 (Int.tdiv a1 64)) then (((a0).length:Nat):Int) else (wr .i64 (Int.tdiv a1 64)))).toNat).take ((a0).length-((if (((a0).length:Nat):Int)<(wr .i64 (Int.tdiv a1 64)) then (((a0).length:Nat):Int) else (wr .i64 (Int.tdiv a1 64)))).toNat))).bind λr3=>(some (r3,(0:Int))))) else none) else none)))
def z23.enc (r:J0×Int):V:=(.tup [(.agg [(.ints false .u64 r.1)]),(.int .i64 r.2)])
def z23.pack:List V->Option Pack
 |[(.agg [(.ints _ .u64 a0)]),(.int .i64 a1)]=>some ⟨J0×Int,z23.F a0 a1,z23.enc⟩
 |_=>none
def z24.l0P (a:Int) (b:J0) (c:Int) {R:Type} (rec done:(Int×J0)->Option R):(Int×J0)->Option R:=λx=>match x with
 |(d,e)=>(bif (decide (d<c)) then (if 0<=d/\d<(b.length:Int) then (if 0<=d/\d<(e.length:Int) then (if (d).toNat<e.length then (if 0<=a then (if 0<=d/\d<(e.length:Int) then (if (d).toNat<e.length then (if 0<=(wr .u64 ((64:Int)-a)) then (if 0<=(wr .i64 (d+1))/\(wr .i64 (d+1))<((e.set (d).toNat (wr .u64 ((BitVec.ofInt (IntKind.bits .u64) (e.getD (d).toNat 0) ||| BitVec.ofInt (IntKind.bits .u64) (wr .u64 ((b.getD (d).toNat 0)*2^(min (a).toNat (64:Nat))))).toNat:Int))).length:Int) then (if ((wr .i64 (d+1))).toNat<(e.set (d).toNat (wr .u64 ((BitVec.ofInt (IntKind.bits .u64) (e.getD (d).toNat 0) ||| BitVec.ofInt (IntKind.bits .u64) (wr .u64 ((b.getD (d).toNat 0)*2^(min (a).toNat (64:Nat))))).toNat:Int))).length then (rec ((wr .i64 (d+1)),((e.set (d).toNat (wr .u64 ((BitVec.ofInt (IntKind.bits .u64) (e.getD (d).toNat 0) ||| BitVec.ofInt (IntKind.bits .u64) (wr .u64 ((b.getD (d).toNat 0)*2^(min (a).toNat (64:Nat))))).toNat:Int))).set ((wr .i64 (d+1))).toNat (Int.fdiv (b.getD (d).toNat 0) (2^(min ((wr .u64 ((64:Int)-a))).toNat (64:Nat))))))) else none) else none) else none) else none) else none) else none) else none) else none) else none) else (done (d,e)))
def z24.l0 (a:Int) (b:J0) (c:Int) (x:(Int×J0)):Option ((Int×J0)):=lfp (λrec x=>z24.l0P a b c rec some x) x
def z24.l0aP (a:Int) (b:J0) (c:Int) {R:Type} (rec done:(Int×J0)->Option R):(Int×J0)->Option R:=λx=>match x with
 |(d,e)=>(bif (decide (d<c)) then (if 0<=d/\d<(b.length:Int) then (if 0<=d/\d<(e.length:Int) then (if (d).toNat<e.length then (if 0<=a then (if 0<=d/\d<(e.length:Int) then (if (d).toNat<e.length then (if 0<=(wr .u64 ((64:Int)-a)) then (if 0<=(wr .i64 (d+1))/\(wr .i64 (d+1))<((e.set (d).toNat (wr .u64 ((BitVec.ofInt (IntKind.bits .u64) (e.getD (d).toNat 0) ||| BitVec.ofInt (IntKind.bits .u64) (wr .u64 ((b.getD (d).toNat 0)*2^(min (a).toNat (64:Nat))))).toNat:Int))).length:Int) then (if ((wr .i64 (d+1))).toNat<(e.set (d).toNat (wr .u64 ((BitVec.ofInt (IntKind.bits .u64) (e.getD (d).toNat 0) ||| BitVec.ofInt (IntKind.bits .u64) (wr .u64 ((b.getD (d).toNat 0)*2^(min (a).toNat (64:Nat))))).toNat:Int))).length then (rec ((wr .i64 (d+1)),((e.set (d).toNat (wr .u64 ((BitVec.ofInt (IntKind.bits .u64) (e.getD (d).toNat 0) ||| BitVec.ofInt (IntKind.bits .u64) (wr .u64 ((b.getD (d).toNat 0)*2^(min (a).toNat (64:Nat))))).toNat:Int))).set ((wr .i64 (d+1))).toNat (Int.fdiv (b.getD (d).toNat 0) (2^(min ((wr .u64 ((64:Int)-a))).toNat (64:Nat))))))) else none) else none) else none) else none) else none) else none) else none) else none) else none) else (done (d,e)))
def z24.l0a (a:Int) (b:J0) (c:Int) (x:(Int×J0)):Option ((Int×J0)):=lfp (λrec x=>z24.l0aP a b c rec some x) x
def z24.l0b3P (a b:Nat) (c:Int) (d e:Nat) (g:Int) (h:J0) {R:Type} (rec done:(Int×Int×Int×J0)->Option R):(Int×Int×Int×J0)->Option R:=λx=>match x with
 |(j,k,m,n)=>(bif (decide (m<g)) then (if 0<=m/\m<((e:Nat):Int) then (if (d+(m).toNat)<h.length then ((z21.F (h.getD (d+(m).toNat) 0) c).bind λo=>((z0.F o.2 j 0).bind λp=>(if 0<=m/\m<((b:Nat):Int) then (if (a+(m).toNat)<n.length then ((z1.F (n.getD (a+(m).toNat) 0) p.1 k).bind λq=>(if 0<=m/\m<((b:Nat):Int) then (if (a+(m).toNat)<n.length then (rec ((wr .u64 (o.1+p.2)),q.2,(wr .i64 (m+1)),(n.set (a+(m).toNat) q.1))) else none) else none)) else none) else none))) else none) else none) else (done (j,k,m,n)))
def z24.l0b3 (a b:Nat) (c:Int) (d e:Nat) (g:Int) (h:J0) (x:(Int×Int×Int×J0)):Option ((Int×Int×Int×J0)):=lfp (λrec x=>z24.l0b3P a b c d e g h rec some x) x
def z24.l0b4P (a b c d:Nat) (e:Int) (g:J0) {R:Type} (rec done:(Int×Int×J0)->Option R):(Int×Int×J0)->Option R:=λx=>match x with
 |(h,j,k)=>(bif (decide (j<e)) then (if 0<=j/\j<((d:Nat):Int) then (if (c+(j).toNat)<g.length then (if 0<=j/\j<((b:Nat):Int) then (if (a+(j).toNat)<k.length then ((z0.F (k.getD (a+(j).toNat) 0) (g.getD (c+(j).toNat) 0) h).bind λm=>(if 0<=j/\j<((b:Nat):Int) then (if (a+(j).toNat)<k.length then (rec (m.2,(wr .i64 (j+1)),(k.set (a+(j).toNat) m.1))) else none) else none)) else none) else none) else none) else none) else (done (h,j,k)))
def z24.l0b4 (a b c d:Nat) (e:Int) (g:J0) (x:(Int×Int×J0)):Option ((Int×Int×J0)):=lfp (λrec x=>z24.l0b4P a b c d e g rec some x) x
def z24.l2P (a b c d:Nat) (e:J0) {R:Type} (rec done:(Int×Int×J0)->Option R):(Int×Int×J0)->Option R:=λx=>match x with
 |(g,h,j)=>(bif (!decide (h=0)) then ((z24.l0b4 c d a b ((b:Nat):Int) e ((0:Int),(0:Int),j)).bind λk=>(if 0<=((b:Nat):Int)/\((b:Nat):Int)<((d:Nat):Int) then (if (c+(((b:Nat):Int)).toNat)<k.2.2.length then (if 0<=((b:Nat):Int)/\((b:Nat):Int)<((d:Nat):Int) then (if (c+(((b:Nat):Int)).toNat)<k.2.2.length then (if 0<=((b:Nat):Int)/\((b:Nat):Int)<((d:Nat):Int) then (if (c+(((b:Nat):Int)).toNat)<(k.2.2.set (c+(((b:Nat):Int)).toNat) (wr .u64 ((k.2.2.getD (c+(((b:Nat):Int)).toNat) 0)+k.1))).length then (bif (decide (((k.2.2.set (c+(((b:Nat):Int)).toNat) (wr .u64 ((k.2.2.getD (c+(((b:Nat):Int)).toNat) 0)+k.1))).getD (c+(((b:Nat):Int)).toNat) 0)=0)) then (rec ((wr .u64 (g-1)),(0:Int),(k.2.2.set (c+(((b:Nat):Int)).toNat) (wr .u64 ((k.2.2.getD (c+(((b:Nat):Int)).toNat) 0)+k.1))))) else (rec ((wr .u64 (g-1)),h,(k.2.2.set (c+(((b:Nat):Int)).toNat) (wr .u64 ((k.2.2.getD (c+(((b:Nat):Int)).toNat) 0)+k.1)))))) else none) else none) else none) else none) else none) else none)) else (done (g,h,j)))
def z24.l2 (a b c d:Nat) (e:J0) (x:(Int×Int×J0)):Option ((Int×Int×J0)):=lfp (λrec x=>z24.l2P a b c d e rec some x) x
def z24.l0aaP (a b:Nat) (c:J0) {R:Type} (rec done:(Int×J0×J0)->Option R):(Int×J0×J0)->Option R:=λx=>match x with
 |(d,e,g)=>(bif (decide (d>=0)) then (if 0<=d/\d<=(wr .i64 ((wr .i64 (d+((b:Nat):Int)))+1))/\(wr .i64 ((wr .i64 (d+((b:Nat):Int)))+1))<=((e).length:Int) then (if 0<=((b:Nat):Int)/\((b:Nat):Int)<(((((wr .i64 ((wr .i64 (d+((b:Nat):Int)))+1))).toNat-(d).toNat):Nat):Int) then (if ((d).toNat+(((b:Nat):Int)).toNat)<e.length then (if 0<=(wr .i64 (((b:Nat):Int)-1))/\(wr .i64 (((b:Nat):Int)-1))<(((((wr .i64 ((wr .i64 (d+((b:Nat):Int)))+1))).toNat-(d).toNat):Nat):Int) then (if ((d).toNat+((wr .i64 (((b:Nat):Int)-1))).toNat)<e.length then (if 0<=(wr .i64 (((b:Nat):Int)-2))/\(wr .i64 (((b:Nat):Int)-2))<(((((wr .i64 ((wr .i64 (d+((b:Nat):Int)))+1))).toNat-(d).toNat):Nat):Int) then (if ((d).toNat+((wr .i64 (((b:Nat):Int)-2))).toNat)<e.length then (if 0<=(wr .i64 (((b:Nat):Int)-1))/\(wr .i64 (((b:Nat):Int)-1))<((b:Nat):Int) then (if (a+((wr .i64 (((b:Nat):Int)-1))).toNat)<c.length then (bif (decide ((e.getD ((d).toNat+(((b:Nat):Int)).toNat) 0)>=(c.getD (a+((wr .i64 (((b:Nat):Int)-1))).toNat) 0))) then ((z24.l0b3 (d).toNat (((wr .i64 ((wr .i64 (d+((b:Nat):Int)))+1))).toNat-(d).toNat) 18446744073709551615 a b ((b:Nat):Int) c ((0:Int),(0:Int),(0:Int),e)).bind λh=>(if 0<=((b:Nat):Int)/\((b:Nat):Int)<(((((wr .i64 ((wr .i64 (d+((b:Nat):Int)))+1))).toNat-(d).toNat):Nat):Int) then (if ((d).toNat+(((b:Nat):Int)).toNat)<h.2.2.2.length then ((z1.F (h.2.2.2.getD ((d).toNat+(((b:Nat):Int)).toNat) 0) h.1 h.2.1).bind λj=>(if 0<=((b:Nat):Int)/\((b:Nat):Int)<(((((wr .i64 ((wr .i64 (d+((b:Nat):Int)))+1))).toNat-(d).toNat):Nat):Int) then (if ((d).toNat+(((b:Nat):Int)).toNat)<h.2.2.2.length then ((z24.l2 a b (d).toNat (((wr .i64 ((wr .i64 (d+((b:Nat):Int)))+1))).toNat-(d).toNat) c ((18446744073709551615:Int),j.2,(h.2.2.2.set ((d).toNat+(((b:Nat):Int)).toNat) j.1))).bind λk=>(if 0<=d/\d<(g.length:Int) then (if (d).toNat<g.length then (rec ((wr .i64 (d-1)),k.2.2,(g.set (d).toNat k.1))) else none) else none)) else none) else none)) else none) else none)) else (if 0<=(wr .i64 (((b:Nat):Int)-1))/\(wr .i64 (((b:Nat):Int)-1))<((b:Nat):Int) then (if (a+((wr .i64 (((b:Nat):Int)-1))).toNat)<c.length then ((z19.F (e.getD ((d).toNat+(((b:Nat):Int)).toNat) 0) (e.getD ((d).toNat+((wr .i64 (((b:Nat):Int)-1))).toNat) 0) (c.getD (a+((wr .i64 (((b:Nat):Int)-1))).toNat) 0)).bind λm=>(if 0<=(wr .i64 (((b:Nat):Int)-2))/\(wr .i64 (((b:Nat):Int)-2))<((b:Nat):Int) then (if (a+((wr .i64 (((b:Nat):Int)-2))).toNat)<c.length then ((z21.F m.1 (c.getD (a+((wr .i64 (((b:Nat):Int)-2))).toNat) 0)).bind λn=>(bif (decide (n.1<m.2)) then ((z24.l0b3 (d).toNat (((wr .i64 ((wr .i64 (d+((b:Nat):Int)))+1))).toNat-(d).toNat) m.1 a b ((b:Nat):Int) c ((0:Int),(0:Int),(0:Int),e)).bind λo=>(if 0<=((b:Nat):Int)/\((b:Nat):Int)<(((((wr .i64 ((wr .i64 (d+((b:Nat):Int)))+1))).toNat-(d).toNat):Nat):Int) then (if ((d).toNat+(((b:Nat):Int)).toNat)<o.2.2.2.length then ((z1.F (o.2.2.2.getD ((d).toNat+(((b:Nat):Int)).toNat) 0) o.1 o.2.1).bind λp=>(if 0<=((b:Nat):Int)/\((b:Nat):Int)<(((((wr .i64 ((wr .i64 (d+((b:Nat):Int)))+1))).toNat-(d).toNat):Nat):Int) then (if ((d).toNat+(((b:Nat):Int)).toNat)<o.2.2.2.length then ((z24.l2 a b (d).toNat (((wr .i64 ((wr .i64 (d+((b:Nat):Int)))+1))).toNat-(d).toNat) c (m.1,p.2,(o.2.2.2.set ((d).toNat+(((b:Nat):Int)).toNat) p.1))).bind λq=>(if 0<=d/\d<(g.length:Int) then (if (d).toNat<g.length then (rec ((wr .i64 (d-1)),q.2.2,(g.set (d).toNat q.1))) else none) else none)) else none) else none)) else none) else none)) else (bif (decide (n.1=m.2)) then (bif (decide (n.2<=(e.getD ((d).toNat+((wr .i64 (((b:Nat):Int)-2))).toNat) 0))) then ((z24.l0b3 (d).toNat (((wr .i64 ((wr .i64 (d+((b:Nat):Int)))+1))).toNat-(d).toNat) m.1 a b ((b:Nat):Int) c ((0:Int),(0:Int),(0:Int),e)).bind λr=>(if 0<=((b:Nat):Int)/\((b:Nat):Int)<(((((wr .i64 ((wr .i64 (d+((b:Nat):Int)))+1))).toNat-(d).toNat):Nat):Int) then (if ((d).toNat+(((b:Nat):Int)).toNat)<r.2.2.2.length then ((z1.F (r.2.2.2.getD ((d).toNat+(((b:Nat):Int)).toNat) 0) r.1 r.2.1).bind λs=>(if 0<=((b:Nat):Int)/\((b:Nat):Int)<(((((wr .i64 ((wr .i64 (d+((b:Nat):Int)))+1))).toNat-(d).toNat):Nat):Int) then (if ((d).toNat+(((b:Nat):Int)).toNat)<r.2.2.2.length then ((z24.l2 a b (d).toNat (((wr .i64 ((wr .i64 (d+((b:Nat):Int)))+1))).toNat-(d).toNat) c (m.1,s.2,(r.2.2.2.set ((d).toNat+(((b:Nat):Int)).toNat) s.1))).bind λt=>(if 0<=d/\d<(g.length:Int) then (if (d).toNat<g.length then (rec ((wr .i64 (d-1)),t.2.2,(g.set (d).toNat t.1))) else none) else none)) else none) else none)) else none) else none)) else (if 0<=(wr .i64 (((b:Nat):Int)-1))/\(wr .i64 (((b:Nat):Int)-1))<((b:Nat):Int) then (if (a+((wr .i64 (((b:Nat):Int)-1))).toNat)<c.length then ((z0.F m.2 (c.getD (a+((wr .i64 (((b:Nat):Int)-1))).toNat) 0) 0).bind λu=>(bif (decide (u.2=0)) then (if 0<=(wr .i64 (((b:Nat):Int)-2))/\(wr .i64 (((b:Nat):Int)-2))<((b:Nat):Int) then (if (a+((wr .i64 (((b:Nat):Int)-2))).toNat)<c.length then ((z21.F (wr .u64 (m.1-1)) (c.getD (a+((wr .i64 (((b:Nat):Int)-2))).toNat) 0)).bind λv=>(bif (decide (v.1<u.1)) then ((z24.l0b3 (d).toNat (((wr .i64 ((wr .i64 (d+((b:Nat):Int)))+1))).toNat-(d).toNat) (wr .u64 (m.1-1)) a b ((b:Nat):Int) c ((0:Int),(0:Int),(0:Int),e)).bind λw=>(if 0<=((b:Nat):Int)/\((b:Nat):Int)<(((((wr .i64 ((wr .i64 (d+((b:Nat):Int)))+1))).toNat-(d).toNat):Nat):Int) then (if ((d).toNat+(((b:Nat):Int)).toNat)<w.2.2.2.length then ((z1.F (w.2.2.2.getD ((d).toNat+(((b:Nat):Int)).toNat) 0) w.1 w.2.1).bind λy=>(if 0<=((b:Nat):Int)/\((b:Nat):Int)<(((((wr .i64 ((wr .i64 (d+((b:Nat):Int)))+1))).toNat-(d).toNat):Nat):Int) then (if ((d).toNat+(((b:Nat):Int)).toNat)<w.2.2.2.length then ((z24.l2 a b (d).toNat (((wr .i64 ((wr .i64 (d+((b:Nat):Int)))+1))).toNat-(d).toNat) c ((wr .u64 (m.1-1)),y.2,(w.2.2.2.set ((d).toNat+(((b:Nat):Int)).toNat) y.1))).bind λz=>(if 0<=d/\d<(g.length:Int) then (if (d).toNat<g.length then (rec ((wr .i64 (d-1)),z.2.2,(g.set (d).toNat z.1))) else none) else none)) else none) else none)) else none) else none)) else (bif (decide (v.1=u.1)) then (bif (decide (v.2<=(e.getD ((d).toNat+((wr .i64 (((b:Nat):Int)-2))).toNat) 0))) then ((z24.l0b3 (d).toNat (((wr .i64 ((wr .i64 (d+((b:Nat):Int)))+1))).toNat-(d).toNat) (wr .u64 (m.1-1)) a b ((b:Nat):Int) c ((0:Int),(0:Int),(0:Int),e)).bind λA=>(if 0<=((b:Nat):Int)/\((b:Nat):Int)<(((((wr .i64 ((wr .i64 (d+((b:Nat):Int)))+1))).toNat-(d).toNat):Nat):Int) then (if ((d).toNat+(((b:Nat):Int)).toNat)<A.2.2.2.length then ((z1.F (A.2.2.2.getD ((d).toNat+(((b:Nat):Int)).toNat) 0) A.1 A.2.1).bind λB=>(if 0<=((b:Nat):Int)/\((b:Nat):Int)<(((((wr .i64 ((wr .i64 (d+((b:Nat):Int)))+1))).toNat-(d).toNat):Nat):Int) then (if ((d).toNat+(((b:Nat):Int)).toNat)<A.2.2.2.length then ((z24.l2 a b (d).toNat (((wr .i64 ((wr .i64 (d+((b:Nat):Int)))+1))).toNat-(d).toNat) c ((wr .u64 (m.1-1)),B.2,(A.2.2.2.set ((d).toNat+(((b:Nat):Int)).toNat) B.1))).bind λC=>(if 0<=d/\d<(g.length:Int) then (if (d).toNat<g.length then (rec ((wr .i64 (d-1)),C.2.2,(g.set (d).toNat C.1))) else none) else none)) else none) else none)) else none) else none)) else (if 0<=(wr .i64 (((b:Nat):Int)-1))/\(wr .i64 (((b:Nat):Int)-1))<((b:Nat):Int) then (if (a+((wr .i64 (((b:Nat):Int)-1))).toNat)<c.length then ((z0.F u.1 (c.getD (a+((wr .i64 (((b:Nat):Int)-1))).toNat) 0) 0).bind λD=>(bif (decide (D.2=0)) then (if 0<=(wr .i64 (((b:Nat):Int)-2))/\(wr .i64 (((b:Nat):Int)-2))<((b:Nat):Int) then (if (a+((wr .i64 (((b:Nat):Int)-2))).toNat)<c.length then ((z21.F (wr .u64 ((wr .u64 (m.1-1))-1)) (c.getD (a+((wr .i64 (((b:Nat):Int)-2))).toNat) 0)).bind λE=>(bif (decide (E.1<D.1)) then ((z24.l0b3 (d).toNat (((wr .i64 ((wr .i64 (d+((b:Nat):Int)))+1))).toNat-(d).toNat) (wr .u64 ((wr .u64 (m.1-1))-1)) a b ((b:Nat):Int) c ((0:Int),(0:Int),(0:Int),e)).bind λG=>(if 0<=((b:Nat):Int)/\((b:Nat):Int)<(((((wr .i64 ((wr .i64 (d+((b:Nat):Int)))+1))).toNat-(d).toNat):Nat):Int) then (if ((d).toNat+(((b:Nat):Int)).toNat)<G.2.2.2.length then ((z1.F (G.2.2.2.getD ((d).toNat+(((b:Nat):Int)).toNat) 0) G.1 G.2.1).bind λH=>(if 0<=((b:Nat):Int)/\((b:Nat):Int)<(((((wr .i64 ((wr .i64 (d+((b:Nat):Int)))+1))).toNat-(d).toNat):Nat):Int) then (if ((d).toNat+(((b:Nat):Int)).toNat)<G.2.2.2.length then ((z24.l2 a b (d).toNat (((wr .i64 ((wr .i64 (d+((b:Nat):Int)))+1))).toNat-(d).toNat) c ((wr .u64 ((wr .u64 (m.1-1))-1)),H.2,(G.2.2.2.set ((d).toNat+(((b:Nat):Int)).toNat) H.1))).bind λI=>(if 0<=d/\d<(g.length:Int) then (if (d).toNat<g.length then (rec ((wr .i64 (d-1)),I.2.2,(g.set (d).toNat I.1))) else none) else none)) else none) else none)) else none) else none)) else (bif (decide (E.1=D.1)) then (bif (decide (E.2<=(e.getD ((d).toNat+((wr .i64 (((b:Nat):Int)-2))).toNat) 0))) then ((z24.l0b3 (d).toNat (((wr .i64 ((wr .i64 (d+((b:Nat):Int)))+1))).toNat-(d).toNat) (wr .u64 ((wr .u64 (m.1-1))-1)) a b ((b:Nat):Int) c ((0:Int),(0:Int),(0:Int),e)).bind λJ=>(if 0<=((b:Nat):Int)/\((b:Nat):Int)<(((((wr .i64 ((wr .i64 (d+((b:Nat):Int)))+1))).toNat-(d).toNat):Nat):Int) then (if ((d).toNat+(((b:Nat):Int)).toNat)<J.2.2.2.length then ((z1.F (J.2.2.2.getD ((d).toNat+(((b:Nat):Int)).toNat) 0) J.1 J.2.1).bind λK=>(if 0<=((b:Nat):Int)/\((b:Nat):Int)<(((((wr .i64 ((wr .i64 (d+((b:Nat):Int)))+1))).toNat-(d).toNat):Nat):Int) then (if ((d).toNat+(((b:Nat):Int)).toNat)<J.2.2.2.length then ((z24.l2 a b (d).toNat (((wr .i64 ((wr .i64 (d+((b:Nat):Int)))+1))).toNat-(d).toNat) c ((wr .u64 ((wr .u64 (m.1-1))-1)),K.2,(J.2.2.2.set ((d).toNat+(((b:Nat):Int)).toNat) K.1))).bind λL=>(if 0<=d/\d<(g.length:Int) then (if (d).toNat<g.length then (rec ((wr .i64 (d-1)),L.2.2,(g.set (d).toNat L.1))) else none) else none)) else none) else none)) else none) else none)) else (if 0<=(wr .i64 (((b:Nat):Int)-1))/\(wr .i64 (((b:Nat):Int)-1))<((b:Nat):Int) then (if (a+((wr .i64 (((b:Nat):Int)-1))).toNat)<c.length then ((z0.F D.1 (c.getD (a+((wr .i64 (((b:Nat):Int)-1))).toNat) 0) 0).bind λM=>(bif (decide (M.2=0)) then none else ((z24.l0b3 (d).toNat (((wr .i64 ((wr .i64 (d+((b:Nat):Int)))+1))).toNat-(d).toNat) (wr .u64 ((wr .u64 ((wr .u64 (m.1-1))-1))-1)) a b ((b:Nat):Int) c ((0:Int),(0:Int),(0:Int),e)).bind λN=>(if 0<=((b:Nat):Int)/\((b:Nat):Int)<(((((wr .i64 ((wr .i64 (d+((b:Nat):Int)))+1))).toNat-(d).toNat):Nat):Int) then (if ((d).toNat+(((b:Nat):Int)).toNat)<N.2.2.2.length then ((z1.F (N.2.2.2.getD ((d).toNat+(((b:Nat):Int)).toNat) 0) N.1 N.2.1).bind λO=>(if 0<=((b:Nat):Int)/\((b:Nat):Int)<(((((wr .i64 ((wr .i64 (d+((b:Nat):Int)))+1))).toNat-(d).toNat):Nat):Int) then (if ((d).toNat+(((b:Nat):Int)).toNat)<N.2.2.2.length then ((z24.l2 a b (d).toNat (((wr .i64 ((wr .i64 (d+((b:Nat):Int)))+1))).toNat-(d).toNat) c ((wr .u64 ((wr .u64 ((wr .u64 (m.1-1))-1))-1)),O.2,(N.2.2.2.set ((d).toNat+(((b:Nat):Int)).toNat) O.1))).bind λP=>(if 0<=d/\d<(g.length:Int) then (if (d).toNat<g.length then (rec ((wr .i64 (d-1)),P.2.2,(g.set (d).toNat P.1))) else none) else none)) else none) else none)) else none) else none)))) else none) else none)) else (if 0<=(wr .i64 (((b:Nat):Int)-1))/\(wr .i64 (((b:Nat):Int)-1))<((b:Nat):Int) then (if (a+((wr .i64 (((b:Nat):Int)-1))).toNat)<c.length then ((z0.F D.1 (c.getD (a+((wr .i64 (((b:Nat):Int)-1))).toNat) 0) 0).bind λQ=>(bif (decide (Q.2=0)) then none else ((z24.l0b3 (d).toNat (((wr .i64 ((wr .i64 (d+((b:Nat):Int)))+1))).toNat-(d).toNat) (wr .u64 ((wr .u64 ((wr .u64 (m.1-1))-1))-1)) a b ((b:Nat):Int) c ((0:Int),(0:Int),(0:Int),e)).bind λS=>(if 0<=((b:Nat):Int)/\((b:Nat):Int)<(((((wr .i64 ((wr .i64 (d+((b:Nat):Int)))+1))).toNat-(d).toNat):Nat):Int) then (if ((d).toNat+(((b:Nat):Int)).toNat)<S.2.2.2.length then ((z1.F (S.2.2.2.getD ((d).toNat+(((b:Nat):Int)).toNat) 0) S.1 S.2.1).bind λU=>(if 0<=((b:Nat):Int)/\((b:Nat):Int)<(((((wr .i64 ((wr .i64 (d+((b:Nat):Int)))+1))).toNat-(d).toNat):Nat):Int) then (if ((d).toNat+(((b:Nat):Int)).toNat)<S.2.2.2.length then ((z24.l2 a b (d).toNat (((wr .i64 ((wr .i64 (d+((b:Nat):Int)))+1))).toNat-(d).toNat) c ((wr .u64 ((wr .u64 ((wr .u64 (m.1-1))-1))-1)),U.2,(S.2.2.2.set ((d).toNat+(((b:Nat):Int)).toNat) U.1))).bind λW=>(if 0<=d/\d<(g.length:Int) then (if (d).toNat<g.length then (rec ((wr .i64 (d-1)),W.2.2,(g.set (d).toNat W.1))) else none) else none)) else none) else none)) else none) else none)))) else none) else none)))) else none) else none) else ((z24.l0b3 (d).toNat (((wr .i64 ((wr .i64 (d+((b:Nat):Int)))+1))).toNat-(d).toNat) (wr .u64 ((wr .u64 (m.1-1))-1)) a b ((b:Nat):Int) c ((0:Int),(0:Int),(0:Int),e)).bind λY=>(if 0<=((b:Nat):Int)/\((b:Nat):Int)<(((((wr .i64 ((wr .i64 (d+((b:Nat):Int)))+1))).toNat-(d).toNat):Nat):Int) then (if ((d).toNat+(((b:Nat):Int)).toNat)<Y.2.2.2.length then ((z1.F (Y.2.2.2.getD ((d).toNat+(((b:Nat):Int)).toNat) 0) Y.1 Y.2.1).bind λZ=>(if 0<=((b:Nat):Int)/\((b:Nat):Int)<(((((wr .i64 ((wr .i64 (d+((b:Nat):Int)))+1))).toNat-(d).toNat):Nat):Int) then (if ((d).toNat+(((b:Nat):Int)).toNat)<Y.2.2.2.length then ((z24.l2 a b (d).toNat (((wr .i64 ((wr .i64 (d+((b:Nat):Int)))+1))).toNat-(d).toNat) c ((wr .u64 ((wr .u64 (m.1-1))-1)),Z.2,(Y.2.2.2.set ((d).toNat+(((b:Nat):Int)).toNat) Z.1))).bind λa0=>(if 0<=d/\d<(g.length:Int) then (if (d).toNat<g.length then (rec ((wr .i64 (d-1)),a0.2.2,(g.set (d).toNat a0.1))) else none) else none)) else none) else none)) else none) else none)))) else none) else none)) else (if 0<=(wr .i64 (((b:Nat):Int)-1))/\(wr .i64 (((b:Nat):Int)-1))<((b:Nat):Int) then (if (a+((wr .i64 (((b:Nat):Int)-1))).toNat)<c.length then ((z0.F u.1 (c.getD (a+((wr .i64 (((b:Nat):Int)-1))).toNat) 0) 0).bind λa1=>(bif (decide (a1.2=0)) then (if 0<=(wr .i64 (((b:Nat):Int)-2))/\(wr .i64 (((b:Nat):Int)-2))<((b:Nat):Int) then (if (a+((wr .i64 (((b:Nat):Int)-2))).toNat)<c.length then ((z21.F (wr .u64 ((wr .u64 (m.1-1))-1)) (c.getD (a+((wr .i64 (((b:Nat):Int)-2))).toNat) 0)).bind λa2=>(bif (decide (a2.1<a1.1)) then ((z24.l0b3 (d).toNat (((wr .i64 ((wr .i64 (d+((b:Nat):Int)))+1))).toNat-(d).toNat) (wr .u64 ((wr .u64 (m.1-1))-1)) a b ((b:Nat):Int) c ((0:Int),(0:Int),(0:Int),e)).bind λa3=>(if 0<=((b:Nat):Int)/\((b:Nat):Int)<(((((wr .i64 ((wr .i64 (d+((b:Nat):Int)))+1))).toNat-(d).toNat):Nat):Int) then (if ((d).toNat+(((b:Nat):Int)).toNat)<a3.2.2.2.length then ((z1.F (a3.2.2.2.getD ((d).toNat+(((b:Nat):Int)).toNat) 0) a3.1 a3.2.1).bind λa4=>(if 0<=((b:Nat):Int)/\((b:Nat):Int)<(((((wr .i64 ((wr .i64 (d+((b:Nat):Int)))+1))).toNat-(d).toNat):Nat):Int) then (if ((d).toNat+(((b:Nat):Int)).toNat)<a3.2.2.2.length then ((z24.l2 a b (d).toNat (((wr .i64 ((wr .i64 (d+((b:Nat):Int)))+1))).toNat-(d).toNat) c ((wr .u64 ((wr .u64 (m.1-1))-1)),a4.2,(a3.2.2.2.set ((d).toNat+(((b:Nat):Int)).toNat) a4.1))).bind λa5=>(if 0<=d/\d<(g.length:Int) then (if (d).toNat<g.length then (rec ((wr .i64 (d-1)),a5.2.2,(g.set (d).toNat a5.1))) else none) else none)) else none) else none)) else none) else none)) else (bif (decide (a2.1=a1.1)) then (bif (decide (a2.2<=(e.getD ((d).toNat+((wr .i64 (((b:Nat):Int)-2))).toNat) 0))) then ((z24.l0b3 (d).toNat (((wr .i64 ((wr .i64 (d+((b:Nat):Int)))+1))).toNat-(d).toNat) (wr .u64 ((wr .u64 (m.1-1))-1)) a b ((b:Nat):Int) c ((0:Int),(0:Int),(0:Int),e)).bind λa6=>(if 0<=((b:Nat):Int)/\((b:Nat):Int)<(((((wr .i64 ((wr .i64 (d+((b:Nat):Int)))+1))).toNat-(d).toNat):Nat):Int) then (if ((d).toNat+(((b:Nat):Int)).toNat)<a6.2.2.2.length then ((z1.F (a6.2.2.2.getD ((d).toNat+(((b:Nat):Int)).toNat) 0) a6.1 a6.2.1).bind λa7=>(if 0<=((b:Nat):Int)/\((b:Nat):Int)<(((((wr .i64 ((wr .i64 (d+((b:Nat):Int)))+1))).toNat-(d).toNat):Nat):Int) then (if ((d).toNat+(((b:Nat):Int)).toNat)<a6.2.2.2.length then ((z24.l2 a b (d).toNat (((wr .i64 ((wr .i64 (d+((b:Nat):Int)))+1))).toNat-(d).toNat) c ((wr .u64 ((wr .u64 (m.1-1))-1)),a7.2,(a6.2.2.2.set ((d).toNat+(((b:Nat):Int)).toNat) a7.1))).bind λa8=>(if 0<=d/\d<(g.length:Int) then (if (d).toNat<g.length then (rec ((wr .i64 (d-1)),a8.2.2,(g.set (d).toNat a8.1))) else none) else none)) else none) else none)) else none) else none)) else (if 0<=(wr .i64 (((b:Nat):Int)-1))/\(wr .i64 (((b:Nat):Int)-1))<((b:Nat):Int) then (if (a+((wr .i64 (((b:Nat):Int)-1))).toNat)<c.length then ((z0.F a1.1 (c.getD (a+((wr .i64 (((b:Nat):Int)-1))).toNat) 0) 0).bind λa9=>(bif (decide (a9.2=0)) then none else ((z24.l0b3 (d).toNat (((wr .i64 ((wr .i64 (d+((b:Nat):Int)))+1))).toNat-(d).toNat) (wr .u64 ((wr .u64 ((wr .u64 (m.1-1))-1))-1)) a b ((b:Nat):Int) c ((0:Int),(0:Int),(0:Int),e)).bind λb0=>(if 0<=((b:Nat):Int)/\((b:Nat):Int)<(((((wr .i64 ((wr .i64 (d+((b:Nat):Int)))+1))).toNat-(d).toNat):Nat):Int) then (if ((d).toNat+(((b:Nat):Int)).toNat)<b0.2.2.2.length then ((z1.F (b0.2.2.2.getD ((d).toNat+(((b:Nat):Int)).toNat) 0) b0.1 b0.2.1).bind λb1=>(if 0<=((b:Nat):Int)/\((b:Nat):Int)<(((((wr .i64 ((wr .i64 (d+((b:Nat):Int)))+1))).toNat-(d).toNat):Nat):Int) then (if ((d).toNat+(((b:Nat):Int)).toNat)<b0.2.2.2.length then ((z24.l2 a b (d).toNat (((wr .i64 ((wr .i64 (d+((b:Nat):Int)))+1))).toNat-(d).toNat) c ((wr .u64 ((wr .u64 ((wr .u64 (m.1-1))-1))-1)),b1.2,(b0.2.2.2.set ((d).toNat+(((b:Nat):Int)).toNat) b1.1))).bind λb2=>(if 0<=d/\d<(g.length:Int) then (if (d).toNat<g.length then (rec ((wr .i64 (d-1)),b2.2.2,(g.set (d).toNat b2.1))) else none) else none)) else none) else none)) else none) else none)))) else none) else none)) else (if 0<=(wr .i64 (((b:Nat):Int)-1))/\(wr .i64 (((b:Nat):Int)-1))<((b:Nat):Int) then (if (a+((wr .i64 (((b:Nat):Int)-1))).toNat)<c.length then ((z0.F a1.1 (c.getD (a+((wr .i64 (((b:Nat):Int)-1))).toNat) 0) 0).bind λb3=>(bif (decide (b3.2=0)) then none else ((z24.l0b3 (d).toNat (((wr .i64 ((wr .i64 (d+((b:Nat):Int)))+1))).toNat-(d).toNat) (wr .u64 ((wr .u64 ((wr .u64 (m.1-1))-1))-1)) a b ((b:Nat):Int) c ((0:Int),(0:Int),(0:Int),e)).bind λb4=>(if 0<=((b:Nat):Int)/\((b:Nat):Int)<(((((wr .i64 ((wr .i64 (d+((b:Nat):Int)))+1))).toNat-(d).toNat):Nat):Int) then (if ((d).toNat+(((b:Nat):Int)).toNat)<b4.2.2.2.length then ((z1.F (b4.2.2.2.getD ((d).toNat+(((b:Nat):Int)).toNat) 0) b4.1 b4.2.1).bind λb5=>(if 0<=((b:Nat):Int)/\((b:Nat):Int)<(((((wr .i64 ((wr .i64 (d+((b:Nat):Int)))+1))).toNat-(d).toNat):Nat):Int) then (if ((d).toNat+(((b:Nat):Int)).toNat)<b4.2.2.2.length then ((z24.l2 a b (d).toNat (((wr .i64 ((wr .i64 (d+((b:Nat):Int)))+1))).toNat-(d).toNat) c ((wr .u64 ((wr .u64 ((wr .u64 (m.1-1))-1))-1)),b5.2,(b4.2.2.2.set ((d).toNat+(((b:Nat):Int)).toNat) b5.1))).bind λb6=>(if 0<=d/\d<(g.length:Int) then (if (d).toNat<g.length then (rec ((wr .i64 (d-1)),b6.2.2,(g.set (d).toNat b6.1))) else none) else none)) else none) else none)) else none) else none)))) else none) else none)))) else none) else none) else ((z24.l0b3 (d).toNat (((wr .i64 ((wr .i64 (d+((b:Nat):Int)))+1))).toNat-(d).toNat) (wr .u64 ((wr .u64 (m.1-1))-1)) a b ((b:Nat):Int) c ((0:Int),(0:Int),(0:Int),e)).bind λb7=>(if 0<=((b:Nat):Int)/\((b:Nat):Int)<(((((wr .i64 ((wr .i64 (d+((b:Nat):Int)))+1))).toNat-(d).toNat):Nat):Int) then (if ((d).toNat+(((b:Nat):Int)).toNat)<b7.2.2.2.length then ((z1.F (b7.2.2.2.getD ((d).toNat+(((b:Nat):Int)).toNat) 0) b7.1 b7.2.1).bind λb8=>(if 0<=((b:Nat):Int)/\((b:Nat):Int)<(((((wr .i64 ((wr .i64 (d+((b:Nat):Int)))+1))).toNat-(d).toNat):Nat):Int) then (if ((d).toNat+(((b:Nat):Int)).toNat)<b7.2.2.2.length then ((z24.l2 a b (d).toNat (((wr .i64 ((wr .i64 (d+((b:Nat):Int)))+1))).toNat-(d).toNat) c ((wr .u64 ((wr .u64 (m.1-1))-1)),b8.2,(b7.2.2.2.set ((d).toNat+(((b:Nat):Int)).toNat) b8.1))).bind λb9=>(if 0<=d/\d<(g.length:Int) then (if (d).toNat<g.length then (rec ((wr .i64 (d-1)),b9.2.2,(g.set (d).toNat b9.1))) else none) else none)) else none) else none)) else none) else none)))) else none) else none)))) else none) else none) else ((z24.l0b3 (d).toNat (((wr .i64 ((wr .i64 (d+((b:Nat):Int)))+1))).toNat-(d).toNat) (wr .u64 (m.1-1)) a b ((b:Nat):Int) c ((0:Int),(0:Int),(0:Int),e)).bind λc0=>(if 0<=((b:Nat):Int)/\((b:Nat):Int)<(((((wr .i64 ((wr .i64 (d+((b:Nat):Int)))+1))).toNat-(d).toNat):Nat):Int) then (if ((d).toNat+(((b:Nat):Int)).toNat)<c0.2.2.2.length then ((z1.F (c0.2.2.2.getD ((d).toNat+(((b:Nat):Int)).toNat) 0) c0.1 c0.2.1).bind λc1=>(if 0<=((b:Nat):Int)/\((b:Nat):Int)<(((((wr .i64 ((wr .i64 (d+((b:Nat):Int)))+1))).toNat-(d).toNat):Nat):Int) then (if ((d).toNat+(((b:Nat):Int)).toNat)<c0.2.2.2.length then ((z24.l2 a b (d).toNat (((wr .i64 ((wr .i64 (d+((b:Nat):Int)))+1))).toNat-(d).toNat) c ((wr .u64 (m.1-1)),c1.2,(c0.2.2.2.set ((d).toNat+(((b:Nat):Int)).toNat) c1.1))).bind λc2=>(if 0<=d/\d<(g.length:Int) then (if (d).toNat<g.length then (rec ((wr .i64 (d-1)),c2.2.2,(g.set (d).toNat c2.1))) else none) else none)) else none) else none)) else none) else none)))) else none) else none)) else (if 0<=(wr .i64 (((b:Nat):Int)-1))/\(wr .i64 (((b:Nat):Int)-1))<((b:Nat):Int) then (if (a+((wr .i64 (((b:Nat):Int)-1))).toNat)<c.length then ((z0.F m.2 (c.getD (a+((wr .i64 (((b:Nat):Int)-1))).toNat) 0) 0).bind λc3=>(bif (decide (c3.2=0)) then (if 0<=(wr .i64 (((b:Nat):Int)-2))/\(wr .i64 (((b:Nat):Int)-2))<((b:Nat):Int) then (if (a+((wr .i64 (((b:Nat):Int)-2))).toNat)<c.length then ((z21.F (wr .u64 (m.1-1)) (c.getD (a+((wr .i64 (((b:Nat):Int)-2))).toNat) 0)).bind λc4=>(bif (decide (c4.1<c3.1)) then ((z24.l0b3 (d).toNat (((wr .i64 ((wr .i64 (d+((b:Nat):Int)))+1))).toNat-(d).toNat) (wr .u64 (m.1-1)) a b ((b:Nat):Int) c ((0:Int),(0:Int),(0:Int),e)).bind λc5=>(if 0<=((b:Nat):Int)/\((b:Nat):Int)<(((((wr .i64 ((wr .i64 (d+((b:Nat):Int)))+1))).toNat-(d).toNat):Nat):Int) then (if ((d).toNat+(((b:Nat):Int)).toNat)<c5.2.2.2.length then ((z1.F (c5.2.2.2.getD ((d).toNat+(((b:Nat):Int)).toNat) 0) c5.1 c5.2.1).bind λc6=>(if 0<=((b:Nat):Int)/\((b:Nat):Int)<(((((wr .i64 ((wr .i64 (d+((b:Nat):Int)))+1))).toNat-(d).toNat):Nat):Int) then (if ((d).toNat+(((b:Nat):Int)).toNat)<c5.2.2.2.length then ((z24.l2 a b (d).toNat (((wr .i64 ((wr .i64 (d+((b:Nat):Int)))+1))).toNat-(d).toNat) c ((wr .u64 (m.1-1)),c6.2,(c5.2.2.2.set ((d).toNat+(((b:Nat):Int)).toNat) c6.1))).bind λc7=>(if 0<=d/\d<(g.length:Int) then (if (d).toNat<g.length then (rec ((wr .i64 (d-1)),c7.2.2,(g.set (d).toNat c7.1))) else none) else none)) else none) else none)) else none) else none)) else (bif (decide (c4.1=c3.1)) then (bif (decide (c4.2<=(e.getD ((d).toNat+((wr .i64 (((b:Nat):Int)-2))).toNat) 0))) then ((z24.l0b3 (d).toNat (((wr .i64 ((wr .i64 (d+((b:Nat):Int)))+1))).toNat-(d).toNat) (wr .u64 (m.1-1)) a b ((b:Nat):Int) c ((0:Int),(0:Int),(0:Int),e)).bind λc8=>(if 0<=((b:Nat):Int)/\((b:Nat):Int)<(((((wr .i64 ((wr .i64 (d+((b:Nat):Int)))+1))).toNat-(d).toNat):Nat):Int) then (if ((d).toNat+(((b:Nat):Int)).toNat)<c8.2.2.2.length then ((z1.F (c8.2.2.2.getD ((d).toNat+(((b:Nat):Int)).toNat) 0) c8.1 c8.2.1).bind λc9=>(if 0<=((b:Nat):Int)/\((b:Nat):Int)<(((((wr .i64 ((wr .i64 (d+((b:Nat):Int)))+1))).toNat-(d).toNat):Nat):Int) then (if ((d).toNat+(((b:Nat):Int)).toNat)<c8.2.2.2.length then ((z24.l2 a b (d).toNat (((wr .i64 ((wr .i64 (d+((b:Nat):Int)))+1))).toNat-(d).toNat) c ((wr .u64 (m.1-1)),c9.2,(c8.2.2.2.set ((d).toNat+(((b:Nat):Int)).toNat) c9.1))).bind λd0=>(if 0<=d/\d<(g.length:Int) then (if (d).toNat<g.length then (rec ((wr .i64 (d-1)),d0.2.2,(g.set (d).toNat d0.1))) else none) else none)) else none) else none)) else none) else none)) else (if 0<=(wr .i64 (((b:Nat):Int)-1))/\(wr .i64 (((b:Nat):Int)-1))<((b:Nat):Int) then (if (a+((wr .i64 (((b:Nat):Int)-1))).toNat)<c.length then ((z0.F c3.1 (c.getD (a+((wr .i64 (((b:Nat):Int)-1))).toNat) 0) 0).bind λd1=>(bif (decide (d1.2=0)) then (if 0<=(wr .i64 (((b:Nat):Int)-2))/\(wr .i64 (((b:Nat):Int)-2))<((b:Nat):Int) then (if (a+((wr .i64 (((b:Nat):Int)-2))).toNat)<c.length then ((z21.F (wr .u64 ((wr .u64 (m.1-1))-1)) (c.getD (a+((wr .i64 (((b:Nat):Int)-2))).toNat) 0)).bind λd2=>(bif (decide (d2.1<d1.1)) then ((z24.l0b3 (d).toNat (((wr .i64 ((wr .i64 (d+((b:Nat):Int)))+1))).toNat-(d).toNat) (wr .u64 ((wr .u64 (m.1-1))-1)) a b ((b:Nat):Int) c ((0:Int),(0:Int),(0:Int),e)).bind λd3=>(if 0<=((b:Nat):Int)/\((b:Nat):Int)<(((((wr .i64 ((wr .i64 (d+((b:Nat):Int)))+1))).toNat-(d).toNat):Nat):Int) then (if ((d).toNat+(((b:Nat):Int)).toNat)<d3.2.2.2.length then ((z1.F (d3.2.2.2.getD ((d).toNat+(((b:Nat):Int)).toNat) 0) d3.1 d3.2.1).bind λd4=>(if 0<=((b:Nat):Int)/\((b:Nat):Int)<(((((wr .i64 ((wr .i64 (d+((b:Nat):Int)))+1))).toNat-(d).toNat):Nat):Int) then (if ((d).toNat+(((b:Nat):Int)).toNat)<d3.2.2.2.length then ((z24.l2 a b (d).toNat (((wr .i64 ((wr .i64 (d+((b:Nat):Int)))+1))).toNat-(d).toNat) c ((wr .u64 ((wr .u64 (m.1-1))-1)),d4.2,(d3.2.2.2.set ((d).toNat+(((b:Nat):Int)).toNat) d4.1))).bind λd5=>(if 0<=d/\d<(g.length:Int) then (if (d).toNat<g.length then (rec ((wr .i64 (d-1)),d5.2.2,(g.set (d).toNat d5.1))) else none) else none)) else none) else none)) else none) else none)) else (bif (decide (d2.1=d1.1)) then (bif (decide (d2.2<=(e.getD ((d).toNat+((wr .i64 (((b:Nat):Int)-2))).toNat) 0))) then ((z24.l0b3 (d).toNat (((wr .i64 ((wr .i64 (d+((b:Nat):Int)))+1))).toNat-(d).toNat) (wr .u64 ((wr .u64 (m.1-1))-1)) a b ((b:Nat):Int) c ((0:Int),(0:Int),(0:Int),e)).bind λd6=>(if 0<=((b:Nat):Int)/\((b:Nat):Int)<(((((wr .i64 ((wr .i64 (d+((b:Nat):Int)))+1))).toNat-(d).toNat):Nat):Int) then (if ((d).toNat+(((b:Nat):Int)).toNat)<d6.2.2.2.length then ((z1.F (d6.2.2.2.getD ((d).toNat+(((b:Nat):Int)).toNat) 0) d6.1 d6.2.1).bind λd7=>(if 0<=((b:Nat):Int)/\((b:Nat):Int)<(((((wr .i64 ((wr .i64 (d+((b:Nat):Int)))+1))).toNat-(d).toNat):Nat):Int) then (if ((d).toNat+(((b:Nat):Int)).toNat)<d6.2.2.2.length then ((z24.l2 a b (d).toNat (((wr .i64 ((wr .i64 (d+((b:Nat):Int)))+1))).toNat-(d).toNat) c ((wr .u64 ((wr .u64 (m.1-1))-1)),d7.2,(d6.2.2.2.set ((d).toNat+(((b:Nat):Int)).toNat) d7.1))).bind λd8=>(if 0<=d/\d<(g.length:Int) then (if (d).toNat<g.length then (rec ((wr .i64 (d-1)),d8.2.2,(g.set (d).toNat d8.1))) else none) else none)) else none) else none)) else none) else none)) else (if 0<=(wr .i64 (((b:Nat):Int)-1))/\(wr .i64 (((b:Nat):Int)-1))<((b:Nat):Int) then (if (a+((wr .i64 (((b:Nat):Int)-1))).toNat)<c.length then ((z0.F d1.1 (c.getD (a+((wr .i64 (((b:Nat):Int)-1))).toNat) 0) 0).bind λd9=>(bif (decide (d9.2=0)) then none else ((z24.l0b3 (d).toNat (((wr .i64 ((wr .i64 (d+((b:Nat):Int)))+1))).toNat-(d).toNat) (wr .u64 ((wr .u64 ((wr .u64 (m.1-1))-1))-1)) a b ((b:Nat):Int) c ((0:Int),(0:Int),(0:Int),e)).bind λe0=>(if 0<=((b:Nat):Int)/\((b:Nat):Int)<(((((wr .i64 ((wr .i64 (d+((b:Nat):Int)))+1))).toNat-(d).toNat):Nat):Int) then (if ((d).toNat+(((b:Nat):Int)).toNat)<e0.2.2.2.length then ((z1.F (e0.2.2.2.getD ((d).toNat+(((b:Nat):Int)).toNat) 0) e0.1 e0.2.1).bind λe1=>(if 0<=((b:Nat):Int)/\((b:Nat):Int)<(((((wr .i64 ((wr .i64 (d+((b:Nat):Int)))+1))).toNat-(d).toNat):Nat):Int) then (if ((d).toNat+(((b:Nat):Int)).toNat)<e0.2.2.2.length then ((z24.l2 a b (d).toNat (((wr .i64 ((wr .i64 (d+((b:Nat):Int)))+1))).toNat-(d).toNat) c ((wr .u64 ((wr .u64 ((wr .u64 (m.1-1))-1))-1)),e1.2,(e0.2.2.2.set ((d).toNat+(((b:Nat):Int)).toNat) e1.1))).bind λe2=>(if 0<=d/\d<(g.length:Int) then (if (d).toNat<g.length then (rec ((wr .i64 (d-1)),e2.2.2,(g.set (d).toNat e2.1))) else none) else none)) else none) else none)) else none) else none)))) else none) else none)) else (if 0<=(wr .i64 (((b:Nat):Int)-1))/\(wr .i64 (((b:Nat):Int)-1))<((b:Nat):Int) then (if (a+((wr .i64 (((b:Nat):Int)-1))).toNat)<c.length then ((z0.F d1.1 (c.getD (a+((wr .i64 (((b:Nat):Int)-1))).toNat) 0) 0).bind λe3=>(bif (decide (e3.2=0)) then none else ((z24.l0b3 (d).toNat (((wr .i64 ((wr .i64 (d+((b:Nat):Int)))+1))).toNat-(d).toNat) (wr .u64 ((wr .u64 ((wr .u64 (m.1-1))-1))-1)) a b ((b:Nat):Int) c ((0:Int),(0:Int),(0:Int),e)).bind λe4=>(if 0<=((b:Nat):Int)/\((b:Nat):Int)<(((((wr .i64 ((wr .i64 (d+((b:Nat):Int)))+1))).toNat-(d).toNat):Nat):Int) then (if ((d).toNat+(((b:Nat):Int)).toNat)<e4.2.2.2.length then ((z1.F (e4.2.2.2.getD ((d).toNat+(((b:Nat):Int)).toNat) 0) e4.1 e4.2.1).bind λe5=>(if 0<=((b:Nat):Int)/\((b:Nat):Int)<(((((wr .i64 ((wr .i64 (d+((b:Nat):Int)))+1))).toNat-(d).toNat):Nat):Int) then (if ((d).toNat+(((b:Nat):Int)).toNat)<e4.2.2.2.length then ((z24.l2 a b (d).toNat (((wr .i64 ((wr .i64 (d+((b:Nat):Int)))+1))).toNat-(d).toNat) c ((wr .u64 ((wr .u64 ((wr .u64 (m.1-1))-1))-1)),e5.2,(e4.2.2.2.set ((d).toNat+(((b:Nat):Int)).toNat) e5.1))).bind λe6=>(if 0<=d/\d<(g.length:Int) then (if (d).toNat<g.length then (rec ((wr .i64 (d-1)),e6.2.2,(g.set (d).toNat e6.1))) else none) else none)) else none) else none)) else none) else none)))) else none) else none)))) else none) else none) else ((z24.l0b3 (d).toNat (((wr .i64 ((wr .i64 (d+((b:Nat):Int)))+1))).toNat-(d).toNat) (wr .u64 ((wr .u64 (m.1-1))-1)) a b ((b:Nat):Int) c ((0:Int),(0:Int),(0:Int),e)).bind λe7=>(if 0<=((b:Nat):Int)/\((b:Nat):Int)<(((((wr .i64 ((wr .i64 (d+((b:Nat):Int)))+1))).toNat-(d).toNat):Nat):Int) then (if ((d).toNat+(((b:Nat):Int)).toNat)<e7.2.2.2.length then ((z1.F (e7.2.2.2.getD ((d).toNat+(((b:Nat):Int)).toNat) 0) e7.1 e7.2.1).bind λe8=>(if 0<=((b:Nat):Int)/\((b:Nat):Int)<(((((wr .i64 ((wr .i64 (d+((b:Nat):Int)))+1))).toNat-(d).toNat):Nat):Int) then (if ((d).toNat+(((b:Nat):Int)).toNat)<e7.2.2.2.length then ((z24.l2 a b (d).toNat (((wr .i64 ((wr .i64 (d+((b:Nat):Int)))+1))).toNat-(d).toNat) c ((wr .u64 ((wr .u64 (m.1-1))-1)),e8.2,(e7.2.2.2.set ((d).toNat+(((b:Nat):Int)).toNat) e8.1))).bind λe9=>(if 0<=d/\d<(g.length:Int) then (if (d).toNat<g.length then (rec ((wr .i64 (d-1)),e9.2.2,(g.set (d).toNat e9.1))) else none) else none)) else none) else none)) else none) else none)))) else none) else none)) else (if 0<=(wr .i64 (((b:Nat):Int)-1))/\(wr .i64 (((b:Nat):Int)-1))<((b:Nat):Int) then (if (a+((wr .i64 (((b:Nat):Int)-1))).toNat)<c.length then ((z0.F c3.1 (c.getD (a+((wr .i64 (((b:Nat):Int)-1))).toNat) 0) 0).bind λg0=>(bif (decide (g0.2=0)) then (if 0<=(wr .i64 (((b:Nat):Int)-2))/\(wr .i64 (((b:Nat):Int)-2))<((b:Nat):Int) then (if (a+((wr .i64 (((b:Nat):Int)-2))).toNat)<c.length then ((z21.F (wr .u64 ((wr .u64 (m.1-1))-1)) (c.getD (a+((wr .i64 (((b:Nat):Int)-2))).toNat) 0)).bind λg1=>(bif (decide (g1.1<g0.1)) then ((z24.l0b3 (d).toNat (((wr .i64 ((wr .i64 (d+((b:Nat):Int)))+1))).toNat-(d).toNat) (wr .u64 ((wr .u64 (m.1-1))-1)) a b ((b:Nat):Int) c ((0:Int),(0:Int),(0:Int),e)).bind λg2=>(if 0<=((b:Nat):Int)/\((b:Nat):Int)<(((((wr .i64 ((wr .i64 (d+((b:Nat):Int)))+1))).toNat-(d).toNat):Nat):Int) then (if ((d).toNat+(((b:Nat):Int)).toNat)<g2.2.2.2.length then ((z1.F (g2.2.2.2.getD ((d).toNat+(((b:Nat):Int)).toNat) 0) g2.1 g2.2.1).bind λg3=>(if 0<=((b:Nat):Int)/\((b:Nat):Int)<(((((wr .i64 ((wr .i64 (d+((b:Nat):Int)))+1))).toNat-(d).toNat):Nat):Int) then (if ((d).toNat+(((b:Nat):Int)).toNat)<g2.2.2.2.length then ((z24.l2 a b (d).toNat (((wr .i64 ((wr .i64 (d+((b:Nat):Int)))+1))).toNat-(d).toNat) c ((wr .u64 ((wr .u64 (m.1-1))-1)),g3.2,(g2.2.2.2.set ((d).toNat+(((b:Nat):Int)).toNat) g3.1))).bind λg4=>(if 0<=d/\d<(g.length:Int) then (if (d).toNat<g.length then (rec ((wr .i64 (d-1)),g4.2.2,(g.set (d).toNat g4.1))) else none) else none)) else none) else none)) else none) else none)) else (bif (decide (g1.1=g0.1)) then (bif (decide (g1.2<=(e.getD ((d).toNat+((wr .i64 (((b:Nat):Int)-2))).toNat) 0))) then ((z24.l0b3 (d).toNat (((wr .i64 ((wr .i64 (d+((b:Nat):Int)))+1))).toNat-(d).toNat) (wr .u64 ((wr .u64 (m.1-1))-1)) a b ((b:Nat):Int) c ((0:Int),(0:Int),(0:Int),e)).bind λg5=>(if 0<=((b:Nat):Int)/\((b:Nat):Int)<(((((wr .i64 ((wr .i64 (d+((b:Nat):Int)))+1))).toNat-(d).toNat):Nat):Int) then (if ((d).toNat+(((b:Nat):Int)).toNat)<g5.2.2.2.length then ((z1.F (g5.2.2.2.getD ((d).toNat+(((b:Nat):Int)).toNat) 0) g5.1 g5.2.1).bind λg6=>(if 0<=((b:Nat):Int)/\((b:Nat):Int)<(((((wr .i64 ((wr .i64 (d+((b:Nat):Int)))+1))).toNat-(d).toNat):Nat):Int) then (if ((d).toNat+(((b:Nat):Int)).toNat)<g5.2.2.2.length then ((z24.l2 a b (d).toNat (((wr .i64 ((wr .i64 (d+((b:Nat):Int)))+1))).toNat-(d).toNat) c ((wr .u64 ((wr .u64 (m.1-1))-1)),g6.2,(g5.2.2.2.set ((d).toNat+(((b:Nat):Int)).toNat) g6.1))).bind λg7=>(if 0<=d/\d<(g.length:Int) then (if (d).toNat<g.length then (rec ((wr .i64 (d-1)),g7.2.2,(g.set (d).toNat g7.1))) else none) else none)) else none) else none)) else none) else none)) else (if 0<=(wr .i64 (((b:Nat):Int)-1))/\(wr .i64 (((b:Nat):Int)-1))<((b:Nat):Int) then (if (a+((wr .i64 (((b:Nat):Int)-1))).toNat)<c.length then ((z0.F g0.1 (c.getD (a+((wr .i64 (((b:Nat):Int)-1))).toNat) 0) 0).bind λg8=>(bif (decide (g8.2=0)) then none else ((z24.l0b3 (d).toNat (((wr .i64 ((wr .i64 (d+((b:Nat):Int)))+1))).toNat-(d).toNat) (wr .u64 ((wr .u64 ((wr .u64 (m.1-1))-1))-1)) a b ((b:Nat):Int) c ((0:Int),(0:Int),(0:Int),e)).bind λg9=>(if 0<=((b:Nat):Int)/\((b:Nat):Int)<(((((wr .i64 ((wr .i64 (d+((b:Nat):Int)))+1))).toNat-(d).toNat):Nat):Int) then (if ((d).toNat+(((b:Nat):Int)).toNat)<g9.2.2.2.length then ((z1.F (g9.2.2.2.getD ((d).toNat+(((b:Nat):Int)).toNat) 0) g9.1 g9.2.1).bind λh0=>(if 0<=((b:Nat):Int)/\((b:Nat):Int)<(((((wr .i64 ((wr .i64 (d+((b:Nat):Int)))+1))).toNat-(d).toNat):Nat):Int) then (if ((d).toNat+(((b:Nat):Int)).toNat)<g9.2.2.2.length then ((z24.l2 a b (d).toNat (((wr .i64 ((wr .i64 (d+((b:Nat):Int)))+1))).toNat-(d).toNat) c ((wr .u64 ((wr .u64 ((wr .u64 (m.1-1))-1))-1)),h0.2,(g9.2.2.2.set ((d).toNat+(((b:Nat):Int)).toNat) h0.1))).bind λh1=>(if 0<=d/\d<(g.length:Int) then (if (d).toNat<g.length then (rec ((wr .i64 (d-1)),h1.2.2,(g.set (d).toNat h1.1))) else none) else none)) else none) else none)) else none) else none)))) else none) else none)) else (if 0<=(wr .i64 (((b:Nat):Int)-1))/\(wr .i64 (((b:Nat):Int)-1))<((b:Nat):Int) then (if (a+((wr .i64 (((b:Nat):Int)-1))).toNat)<c.length then ((z0.F g0.1 (c.getD (a+((wr .i64 (((b:Nat):Int)-1))).toNat) 0) 0).bind λh2=>(bif (decide (h2.2=0)) then none else ((z24.l0b3 (d).toNat (((wr .i64 ((wr .i64 (d+((b:Nat):Int)))+1))).toNat-(d).toNat) (wr .u64 ((wr .u64 ((wr .u64 (m.1-1))-1))-1)) a b ((b:Nat):Int) c ((0:Int),(0:Int),(0:Int),e)).bind λh3=>(if 0<=((b:Nat):Int)/\((b:Nat):Int)<(((((wr .i64 ((wr .i64 (d+((b:Nat):Int)))+1))).toNat-(d).toNat):Nat):Int) then (if ((d).toNat+(((b:Nat):Int)).toNat)<h3.2.2.2.length then ((z1.F (h3.2.2.2.getD ((d).toNat+(((b:Nat):Int)).toNat) 0) h3.1 h3.2.1).bind λh4=>(if 0<=((b:Nat):Int)/\((b:Nat):Int)<(((((wr .i64 ((wr .i64 (d+((b:Nat):Int)))+1))).toNat-(d).toNat):Nat):Int) then (if ((d).toNat+(((b:Nat):Int)).toNat)<h3.2.2.2.length then ((z24.l2 a b (d).toNat (((wr .i64 ((wr .i64 (d+((b:Nat):Int)))+1))).toNat-(d).toNat) c ((wr .u64 ((wr .u64 ((wr .u64 (m.1-1))-1))-1)),h4.2,(h3.2.2.2.set ((d).toNat+(((b:Nat):Int)).toNat) h4.1))).bind λh5=>(if 0<=d/\d<(g.length:Int) then (if (d).toNat<g.length then (rec ((wr .i64 (d-1)),h5.2.2,(g.set (d).toNat h5.1))) else none) else none)) else none) else none)) else none) else none)))) else none) else none)))) else none) else none) else ((z24.l0b3 (d).toNat (((wr .i64 ((wr .i64 (d+((b:Nat):Int)))+1))).toNat-(d).toNat) (wr .u64 ((wr .u64 (m.1-1))-1)) a b ((b:Nat):Int) c ((0:Int),(0:Int),(0:Int),e)).bind λh6=>(if 0<=((b:Nat):Int)/\((b:Nat):Int)<(((((wr .i64 ((wr .i64 (d+((b:Nat):Int)))+1))).toNat-(d).toNat):Nat):Int) then (if ((d).toNat+(((b:Nat):Int)).toNat)<h6.2.2.2.length then ((z1.F (h6.2.2.2.getD ((d).toNat+(((b:Nat):Int)).toNat) 0) h6.1 h6.2.1).bind λh7=>(if 0<=((b:Nat):Int)/\((b:Nat):Int)<(((((wr .i64 ((wr .i64 (d+((b:Nat):Int)))+1))).toNat-(d).toNat):Nat):Int) then (if ((d).toNat+(((b:Nat):Int)).toNat)<h6.2.2.2.length then ((z24.l2 a b (d).toNat (((wr .i64 ((wr .i64 (d+((b:Nat):Int)))+1))).toNat-(d).toNat) c ((wr .u64 ((wr .u64 (m.1-1))-1)),h7.2,(h6.2.2.2.set ((d).toNat+(((b:Nat):Int)).toNat) h7.1))).bind λh8=>(if 0<=d/\d<(g.length:Int) then (if (d).toNat<g.length then (rec ((wr .i64 (d-1)),h8.2.2,(g.set (d).toNat h8.1))) else none) else none)) else none) else none)) else none) else none)))) else none) else none)))) else none) else none) else ((z24.l0b3 (d).toNat (((wr .i64 ((wr .i64 (d+((b:Nat):Int)))+1))).toNat-(d).toNat) (wr .u64 (m.1-1)) a b ((b:Nat):Int) c ((0:Int),(0:Int),(0:Int),e)).bind λh9=>(if 0<=((b:Nat):Int)/\((b:Nat):Int)<(((((wr .i64 ((wr .i64 (d+((b:Nat):Int)))+1))).toNat-(d).toNat):Nat):Int) then (if ((d).toNat+(((b:Nat):Int)).toNat)<h9.2.2.2.length then ((z1.F (h9.2.2.2.getD ((d).toNat+(((b:Nat):Int)).toNat) 0) h9.1 h9.2.1).bind λj0=>(if 0<=((b:Nat):Int)/\((b:Nat):Int)<(((((wr .i64 ((wr .i64 (d+((b:Nat):Int)))+1))).toNat-(d).toNat):Nat):Int) then (if ((d).toNat+(((b:Nat):Int)).toNat)<h9.2.2.2.length then ((z24.l2 a b (d).toNat (((wr .i64 ((wr .i64 (d+((b:Nat):Int)))+1))).toNat-(d).toNat) c ((wr .u64 (m.1-1)),j0.2,(h9.2.2.2.set ((d).toNat+(((b:Nat):Int)).toNat) j0.1))).bind λj1=>(if 0<=d/\d<(g.length:Int) then (if (d).toNat<g.length then (rec ((wr .i64 (d-1)),j1.2.2,(g.set (d).toNat j1.1))) else none) else none)) else none) else none)) else none) else none)))) else none) else none)))) else none) else none)) else none) else none)) else none) else none) else none) else none) else none) else none) else none) else none) else none) else (done (d,e,g)))
def z24.l0aa (a b:Nat) (c:J0) (x:(Int×J0×J0)):Option ((Int×J0×J0)):=lfp (λrec x=>z24.l0aaP a b c rec some x) x
def z24.F (a0 a1:J0):Option (J0×J0):=
 (if 0<=(wr .i64 ((((a1).length:Nat):Int)-1))/\(wr .i64 ((((a1).length:Nat):Int)-1))<(a1.length:Int) then ((z18.F (a1.getD ((wr .i64 ((((a1).length:Nat):Int)-1))).toNat 0)).bind λr1=>(if 0<=(wr .i64 ((((a0).length:Nat):Int)+1))/\(wr .i64 ((((a0).length:Nat):Int)+1))*8<=140737488355328 then ((z24.l0 (wr .u64 r1) a0 (((a0).length:Nat):Int) ((0:Int),(List.replicate ((wr .i64 ((((a0).length:Nat):Int)+1))).toNat (0:Int)))).bind λo2=>(if 0<=(wr .i64 ((((a1).length:Nat):Int)+1))/\(wr .i64 ((((a1).length:Nat):Int)+1))*8<=140737488355328 then ((z24.l0a (wr .u64 r1) a1 (((a1).length:Nat):Int) ((0:Int),(List.replicate ((wr .i64 ((((a1).length:Nat):Int)+1))).toNat (0:Int)))).bind λo3=>(if 0<=(((a1).length:Nat):Int)/\(((a1).length:Nat):Int)<=((o3.2).length:Int) then (if 0<=(wr .i64 ((((o2.2).length:Nat):Int)-((((((a1).length:Nat):Int)).toNat:Nat):Int)))/\(wr .i64 ((((o2.2).length:Nat):Int)-((((((a1).length:Nat):Int)).toNat:Nat):Int)))*8<=140737488355328 then ((z24.l0aa 0 ((((a1).length:Nat):Int)).toNat o3.2 ((wr .i64 (((((List.replicate ((wr .i64 ((((o2.2).length:Nat):Int)-((((((a1).length:Nat):Int)).toNat:Nat):Int)))).toNat (0:Int))).length:Nat):Int)-1)),o2.2,(List.replicate ((wr .i64 ((((o2.2).length:Nat):Int)-((((((a1).length:Nat):Int)).toNat:Nat):Int)))).toNat (0:Int)))).bind λo4=>((z15.F o4.2.1).bind λr5=>((z23.F r5 (wr .i64 (wr .u64 r1))).bind λr6=>((z16.F r6.1).bind λr7=>(some (o4.2.2,r7)))))) else none) else none)) else none)) else none)) else none)
def z24.enc (r:J0×J0):V:=(.tup [(.ints false .u64 r.1),(.ints false .u64 r.2)])
def z24.pack:List V->Option Pack
 |[(.ints _ .u64 a0),(.ints _ .u64 a1)]=>some ⟨J0×J0,z24.F a0 a1,z24.enc⟩
 |_=>none
def z25.F (a0 a1:J0):Option (J0×J0×Int):=
 ((z8.F a1).bind λr1=>(bif r1 then (some ([],[],(8:Int))) else ((z13.F a0 a1).bind λr2=>(bif (decide (r2<0)) then (some ([],a0,(0:Int))) else ((z16.F a0).bind λr3=>((z16.F a1).bind λr4=>(bif (decide ((((r4).length:Nat):Int)=1)) then (if (0:Int)<=(0:Int)/\(0:Int)<(r4.length:Int) then ((z20.F r3 (r4.getD 0 0)).bind λr5=>((z15.F r5.1).bind λr6=>((z15.F [r5.2]).bind λr7=>(some (r6,r7,(0:Int)))))) else none) else ((z24.F r3 r4).bind λr8=>((z15.F r8.1).bind λr9=>((z15.F r8.2).bind λr10=>(some (r9,r10,(0:Int)))))))))))))
def z25.enc (r:J0×J0×Int):V:=(.tup [(.agg [(.ints false .u64 r.1)]),(.agg [(.ints false .u64 r.2.1)]),(.int .i64 r.2.2)])
def z25.pack:List V->Option Pack
 |[(.agg [(.ints _ .u64 a0)]),(.agg [(.ints _ .u64 a1)])]=>some ⟨J0×J0×Int,z25.F a0 a1,z25.enc⟩
 |_=>none
def z26.l0P (a:Int) {R:Type} (rec done:(Int×Int×J0)->Option R):(Int×Int×J0)->Option R:=λx=>match x with
 |(b,c,d)=>(bif (decide (b>0)) then (if 0<=(wr .i64 (c-1))/\(wr .i64 (c-1))<20 then (if ((wr .i64 (c-1))).toNat<d.length then (rec ((wr .u64 (Int.tdiv b 10)),(wr .i64 (c-1)),(d.set ((wr .i64 (c-1))).toNat (wr .u8 (wr .u64 ((48:Int)+(Int.tmod b 10))))))) else none) else none) else (bif (decide ((wr .i64 ((20:Int)-c))<a)) then (if 0<=(wr .i64 (c-1))/\(wr .i64 (c-1))<20 then (if ((wr .i64 (c-1))).toNat<d.length then (rec ((wr .u64 (Int.tdiv b 10)),(wr .i64 (c-1)),(d.set ((wr .i64 (c-1))).toNat (wr .u8 (wr .u64 ((48:Int)+(Int.tmod b 10))))))) else none) else none) else (done (b,c,d))))
def z26.l0 (a:Int) (x:(Int×Int×J0)):Option ((Int×Int×J0)):=lfp (λrec x=>z26.l0P a rec some x) x
def z26.F (a0 a1:Int):Option (J1):=
 ((z26.l0 a1 (a0,(20:Int),(List.replicate 20 0))).bind λo1=>(if (o1.2.2).length=20 then (if 0<=o1.2.1/\o1.2.1<=20 then (some (((o1.2.2.drop (o1.2.1).toNat).take (20-(o1.2.1).toNat)).map λn=>UInt8.ofNat n.toNat)) else none) else none))
def z26.enc (r:J1):V:=(.str r)
def z26.pack:List V->Option Pack
 |[(.int .u64 a0),(.int .i64 a1)]=>some ⟨J1,z26.F a0 a1,z26.enc⟩
 |_=>none
def z27.l2P (a:J0) (b:Int) {R:Type} (rec done:(Int×Int)->Option R):(Int×Int)->Option R:=λx=>match x with
 |(c,d)=>(bif (decide (d<b)) then (if 0<=d/\d<(a.length:Int) then (rec ((a.getD (d).toNat 0),(wr .i64 (d+1)))) else none) else (done (c,d)))
def z27.l2 (a:J0) (b:Int) (x:(Int×Int)):Option ((Int×Int)):=lfp (λrec x=>z27.l2P a b rec some x) x
def z27.j1010a {R:Type} (rec done:(J0×(List J1))->Option R) (a:Int×Int) (b:Int) (c:List J1) (d:J0×J0×Int):Option R:=
 ((z26.F a.1 b).bind λe=>(if ((c).length+([e]).length)*16<=140737488355328 then (rec (d.1,(c++[e]))) else none))
def z27.l0P {R:Type} (rec done:(J0×(List J1))->Option R):(J0×(List J1))->Option R:=λx=>match x with
 |(a,b)=>((z8.F a).bind λc=>(bif (!c) then ((z15.F [(1000000000000000000:Int)]).bind λd=>((z25.F a d).bind λe=>((z16.F e.2.1).bind λg=>((z27.l2 g (((g).length:Nat):Int) ((0:Int),(0:Int))).bind λh=>((z8.F e.1).bind λj=>(bif j then (z27.j1010a rec done h 1 b e) else (z27.j1010a rec done h 18 b e))))))) else (done (a,b))))
def z27.l0 (x:(J0×(List J1))):Option ((J0×(List J1))):=lfp (λrec x=>z27.l0P rec some x) x
def z27.l4P (a:List J1) {R:Type} (rec done:(Int×J0)->Option R):(Int×J0)->Option R:=λx=>match x with
 |(b,d)=>(bif (decide (b>=0)) then (if 0<=b/\b<(a.length:Int) then (if (b).toNat<a.length then (if ((d).length+(((a.getD (b).toNat []).map λc=>(c.toNat:Int))).length)*1<=140737488355328 then (rec ((wr .i64 (b-1)),(d++((a.getD (b).toNat []).map λc=>(c.toNat:Int))))) else none) else none) else none) else (done (b,d)))
def z27.l4 (a:List J1) (x:(Int×J0)):Option ((Int×J0)):=lfp (λrec x=>z27.l4P a rec some x) x
def z27.F (a0:J0):Option (J1):=
 ((z8.F a0).bind λr1=>(bif r1 then (some ([48]:J1)) else ((z27.l0 (a0,[])).bind λo2=>(bif (decide ((wr .i64 ((((o2.2).length:Nat):Int)-1))>=0)) then (if 0<=(wr .i64 ((((o2.2).length:Nat):Int)-1))/\(wr .i64 ((((o2.2).length:Nat):Int)-1))<(o2.2.length:Int) then (if ((wr .i64 ((((o2.2).length:Nat):Int)-1))).toNat<o2.2.length then (if (([]:J0).length+(((o2.2.getD ((wr .i64 ((((o2.2).length:Nat):Int)-1))).toNat []).map λc=>(c.toNat:Int))).length)*1<=140737488355328 then ((z27.l4 o2.2 ((wr .i64 ((wr .i64 ((((o2.2).length:Nat):Int)-1))-1)),([]++((o2.2.getD ((wr .i64 ((((o2.2).length:Nat):Int)-1))).toNat []).map λc=>(c.toNat:Int))))).bind λo3=>(if 0<(o3.2).length then (if (((o3.2).length:Nat):Int)=(o3.2.length:Int)/\0<o3.2.length/\o3.2.all Yw=true then (some (o3.2.map λn=>UInt8.ofNat n.toNat)) else none) else none)) else none) else none) else none) else (if ((([]:J0).length:Nat):Int)=0 then (some ([]:J1)) else none)))))
def z27.pack:List V->Option Pack
 |[(.agg [(.ints _ .u64 a0)])]=>some ⟨J1,z27.F a0,z26.enc⟩
 |_=>none
def z28.F (a0:J0) (a1:Bool):Option (J1):=
 (bif a1 then ((z27.F a0).bind λr1=>(if ([45]:J1).length+r1.length<=9223372036854775807 then (some (([45]:J1)++r1)) else none)) else ((z27.F a0).bind λr2=>(some r2)))
def z28.pack:List V->Option Pack
 |[(.agg [(.ints _ .u64 a0),(.bool a1)])]=>some ⟨J1,z28.F a0 a1,z26.enc⟩
 |_=>none
def z29.F (a0:J0) (a1:Bool):Option (Int):=
 ((z8.F a0).bind λr1=>(bif r1 then (some 0) else (bif a1 then (some (-1:Int)) else (some 1))))
def z29.pack:List V->Option Pack
 |[(.agg [(.ints _ .u64 a0),(.bool a1)])]=>some ⟨Int,z29.F a0 a1,z10.enc⟩
 |_=>none
def z30.F (a0:J0) (a1:Bool):Option (J0×Bool):=
 (bif a1 then ((z8.F a0).bind λr1=>(some (a0,(!r1)))) else (some (a0,false)))
def z30.enc (r:J0×Bool):V:=(.agg [(.ints false .u64 r.1),(.bool r.2)])
def z30.pack:List V->Option Pack
 |[(.agg [(.ints _ .u64 a0)]),(.bool a1)]=>some ⟨J0×Bool,z30.F a0 a1,z30.enc⟩
 |_=>none
def z31.F (a0 a1:J1):Option (Bool):=
 (bif (decide ((a0.length:Int)>=(a1.length:Int))) then (if 0<=(a1.length:Int)/\(a1.length:Int)<=((a0).length:Int) then (some (decide ((a0.take ((a1.length:Int)).toNat)=a1))) else none) else (some false))
def z31.pack:List V->Option Pack
 |[(.str a0),(.str a1)]=>some ⟨Bool,z31.F a0 a1,z8.enc⟩
 |_=>none
def z32.F (a0 a1:J1):Option (J1×Bool):=
 ((z31.F a0 a1).bind λr1=>(bif (!r1) then (some (a0,false)) else (if 0<=(a1.length:Int)/\(a1.length:Int)<=((a0).length:Int) then (some ((a0.drop ((a1.length:Int)).toNat),true)) else none)))
def z32.enc (r:J1×Bool):V:=(.tup [(.str r.1),(.bool r.2)])
def z32.pack:List V->Option Pack
 |[(.str a0),(.str a1)]=>some ⟨J1×Bool,z32.F a0 a1,z32.enc⟩
 |_=>none
def z33.F (a0 a1:J1):Option (J1×Bool):=
 ((z32.F a0 a1).bind λr1=>(some (r1.1,r1.2)))
def z33.pack:List V->Option Pack
 |[(.str a0),(.str a1)]=>some ⟨J1×Bool,z33.F a0 a1,z32.enc⟩
 |_=>none
def z34.F (a0:J0) (a1:Int):Option (Int):=
 (bif (decide (a1>=(((a0).length:Nat):Int))) then (some 0) else (if 0<=a1/\a1<(a0.length:Int) then (some (a0.getD (a1).toNat 0)) else none))
def z34.enc (r:Int):V:=(.int .u64 r)
def z34.pack:List V->Option Pack
 |[(.agg [(.ints _ .u64 a0)]),(.int .i64 a1)]=>some ⟨Int,z34.F a0 a1,z34.enc⟩
 |_=>none
def z35.l0P (a:Int) (b c:J0) {R:Type} (rec done:(Int×Int×J0)->Option R):(Int×Int×J0)->Option R:=λx=>match x with
 |(d,e,g)=>(bif (decide (e<a)) then ((z34.F b e).bind λh=>((z34.F c e).bind λj=>((z0.F h j d).bind λk=>(if 0<=e/\e<(g.length:Int) then (if (e).toNat<g.length then (rec (k.2,(wr .i64 (e+1)),(g.set (e).toNat k.1))) else none) else none)))) else (done (d,e,g)))
def z35.l0 (a:Int) (b c:J0) (x:(Int×Int×J0)):Option ((Int×Int×J0)):=lfp (λrec x=>z35.l0P a b c rec some x) x
def z35.F (a0 a1:J0):Option (J0):=
 (if 0<=(wr .i64 ((if (((a1).length:Nat):Int)>(((a0).length:Nat):Int) then (((a1).length:Nat):Int) else (((a0).length:Nat):Int))+1))/\(wr .i64 ((if (((a1).length:Nat):Int)>(((a0).length:Nat):Int) then (((a1).length:Nat):Int) else (((a0).length:Nat):Int))+1))*8<=140737488355328 then ((z35.l0 ((((List.replicate ((wr .i64 ((if (((a1).length:Nat):Int)>(((a0).length:Nat):Int) then (((a1).length:Nat):Int) else (((a0).length:Nat):Int))+1))).toNat (0:Int))).length:Nat):Int) a0 a1 ((0:Int),(0:Int),(List.replicate ((wr .i64 ((if (((a1).length:Nat):Int)>(((a0).length:Nat):Int) then (((a1).length:Nat):Int) else (((a0).length:Nat):Int))+1))).toNat (0:Int)))).bind λo1=>((z14.F o1.2.2).bind λr2=>(some r2))) else none)
def z35.pack:List V->Option Pack
 |[(.agg [(.ints _ .u64 a0)]),(.agg [(.ints _ .u64 a1)])]=>some ⟨J0,z35.F a0 a1,z14.enc⟩
 |_=>none
def z36.l0aP (a:Int) (b c:Nat) (d:J0) (e:Int) {R:Type} (rec done:(Int×Int×J0)->Option R):(Int×Int×J0)->Option R:=λx=>match x with
 |(g,h,j)=>(bif (decide (h<e)) then (if 0<=h/\h<(d.length:Int) then ((z21.F a (d.getD (h).toNat 0)).bind λk=>((z0.F k.2 g 0).bind λm=>(if 0<=h/\h<((c:Nat):Int) then (if (b+(h).toNat)<j.length then ((z0.F (j.getD (b+(h).toNat) 0) m.1 0).bind λn=>(if 0<=h/\h<((c:Nat):Int) then (if (b+(h).toNat)<j.length then (rec ((wr .u64 ((wr .u64 (k.1+m.2))+n.2)),(wr .i64 (h+1)),(j.set (b+(h).toNat) n.1))) else none) else none)) else none) else none))) else none) else (done (g,h,j)))
def z36.l0a (a:Int) (b c:Nat) (d:J0) (e:Int) (x:(Int×Int×J0)):Option ((Int×Int×J0)):=lfp (λrec x=>z36.l0aP a b c d e rec some x) x
def z36.l0P (a:J0) (b:Int) (c:J0) {R:Type} (rec done:(Int×J0)->Option R):(Int×J0)->Option R:=λx=>match x with
 |(d,e)=>(bif (decide (d<b)) then (if 0<=d/\d<(a.length:Int) then (if 0<=d/\d<=((e).length:Int) then ((z36.l0a (a.getD (d).toNat 0) (d).toNat ((e).length-(d).toNat) c (((c).length:Nat):Int) ((0:Int),(0:Int),e)).bind λg=>(if 0<=(((c).length:Nat):Int)/\(((c).length:Nat):Int)<((((e).length-(d).toNat):Nat):Int) then (if ((d).toNat+((((c).length:Nat):Int)).toNat)<g.2.2.length then (if 0<=(((c).length:Nat):Int)/\(((c).length:Nat):Int)<((((e).length-(d).toNat):Nat):Int) then (if ((d).toNat+((((c).length:Nat):Int)).toNat)<g.2.2.length then (rec ((wr .i64 (d+1)),(g.2.2.set ((d).toNat+((((c).length:Nat):Int)).toNat) (wr .u64 ((g.2.2.getD ((d).toNat+((((c).length:Nat):Int)).toNat) 0)+g.1))))) else none) else none) else none) else none)) else none) else none) else (done (d,e)))
def z36.l0 (a:J0) (b:Int) (c:J0) (x:(Int×J0)):Option ((Int×J0)):=lfp (λrec x=>z36.l0P a b c rec some x) x
def z36.F (a0 a1:J0):Option (J0):=
 (if 0<=(wr .i64 ((wr .i64 ((((a0).length:Nat):Int)+(((a1).length:Nat):Int)))+1))/\(wr .i64 ((wr .i64 ((((a0).length:Nat):Int)+(((a1).length:Nat):Int)))+1))*8<=140737488355328 then ((z36.l0 a1 (((a1).length:Nat):Int) a0 ((0:Int),(List.replicate ((wr .i64 ((wr .i64 ((((a0).length:Nat):Int)+(((a1).length:Nat):Int)))+1))).toNat (0:Int)))).bind λo1=>((z14.F o1.2).bind λr2=>(some r2))) else none)
def z36.pack:List V->Option Pack
 |[(.agg [(.ints _ .u64 a0)]),(.agg [(.ints _ .u64 a1)])]=>some ⟨J0,z36.F a0 a1,z14.enc⟩
 |_=>none
def z37.l2P (a:J1) {R:Type} (rec done:(Int×Nat)->Option R):(Int×Nat)->Option R:=λx=>match x with
 |(b,c)=>(if c<a.length then (rec ((wr .u64 ((wr .u64 ((10:Int)*b))+(wr .u64 (wr .i32 (((Utf8.decode ⟨a.toArray⟩ c).1:Int)-48))))),(c+(Utf8.decode ⟨a.toArray⟩ c).2))) else (done (b,c)))
def z37.l2 (a:J1) (x:(Int×Nat)):Option ((Int×Nat)):=lfp (λrec x=>z37.l2P a rec some x) x
def z37.l2aP (a:J1) {R:Type} (rec done:(Int×Nat)->Option R):(Int×Nat)->Option R:=λx=>match x with
 |(b,c)=>(if c<a.length then (rec ((wr .u64 ((wr .u64 ((10:Int)*b))+(wr .u64 (wr .i32 (((Utf8.decode ⟨a.toArray⟩ c).1:Int)-48))))),(c+(Utf8.decode ⟨a.toArray⟩ c).2))) else (done (b,c)))
def z37.l2a (a:J1) (x:(Int×Nat)):Option ((Int×Nat)):=lfp (λrec x=>z37.l2aP a rec some x) x
def z37.j1011a {R:Type} (rec done:(J1×Bool×J0)->Option R) (a:Int) (b:J1) (c:J0):Option R:=
 (if 0<=a/\a<=((b).length:Int) then ((z37.l2a (b.take (a).toNat) ((0:Int),0)).bind λd=>((z15.F [(1000000000000000000:Int)]).bind λe=>((z36.F c e).bind λg=>((z15.F [d.1]).bind λh=>((z35.F g h).bind λj=>(if 0<=a/\a<=((b).length:Int) then (rec ((b.drop (a).toNat),false,j)) else none)))))) else none)
def z37.l0P {R:Type} (rec done:(J1×Bool×J0)->Option R):(J1×Bool×J0)->Option R:=λx=>match x with
 |(a,b,c)=>(bif (!decide (a=([]:J1))) then (bif (!b) then (if (0:Int)<=(18:Int)/\(18:Int)<=((a).length:Int) then ((z37.l2 (a.take 18) ((0:Int),0)).bind λd=>((z15.F [(1000000000000000000:Int)]).bind λe=>((z36.F c e).bind λg=>((z15.F [d.1]).bind λh=>((z35.F g h).bind λj=>(if (0:Int)<=(18:Int)/\(18:Int)<=((a).length:Int) then (rec ((a.drop 18),false,j)) else none)))))) else none) else (bif (decide ((Int.tmod (a.length:Int) 18)=0)) then (z37.j1011a rec done 18 a c) else (z37.j1011a rec done (Int.tmod (a.length:Int) 18) a c))) else (done (a,b,c)))
def z37.l0 (x:(J1×Bool×J0)):Option ((J1×Bool×J0)):=lfp (λrec x=>z37.l0P rec some x) x
def z37.F (a0:J1):Option (J0×Int):=
 (bif (decide ((a0.length:Int)>4096)) then (some ([],(7:Int))) else (bif (decide (a0=([]:J1))) then (some ([],(5:Int))) else ((z3.F a0 ([48,49,50,51,52,53,54,55,56,57]:J1)).bind λr1=>(bif (!decide (r1=([]:J1))) then (some ([],(5:Int))) else (bif (decide ((a0.length:Int)>1)) then (if (0:Int)<=(0:Int)/\(0:Int)<(a0.length:Int) then (bif (decide (((a0.getD 0 0).toNat:Int)=48)) then (some ([],(5:Int))) else ((z37.l0 (a0,true,[])).bind λo5=>(some (o5.2.2,(0:Int))))) else none) else ((z37.l0 (a0,true,[])).bind λo6=>(some (o6.2.2,(0:Int)))))))))
def z37.pack:List V->Option Pack
 |[(.str a0)]=>some ⟨J0×Int,z37.F a0,z23.enc⟩
 |_=>none
def z38.F (a0:J1):Option (J0×Bool×Int):=
 ((z33.F a0 ([45]:J1)).bind λr1=>((z37.F r1.1).bind λr2=>(bif (!decide (r2.2=0)) then (some ([],false,r2.2)) else (bif r1.2 then ((z8.F r2.1).bind λr3=>(bif r3 then (some ([],false,(5:Int))) else ((z30.F r2.1 r1.2).bind λr7=>(some (r7.1,r7.2,(0:Int)))))) else ((z30.F r2.1 r1.2).bind λr8=>(some (r8.1,r8.2,(0:Int))))))))
def z38.enc (r:J0×Bool×Int):V:=(.tup [(.agg [(.ints false .u64 r.1),(.bool r.2.1)]),(.int .i64 r.2.2)])
def z38.pack:List V->Option Pack
 |[(.str a0)]=>some ⟨J0×Bool×Int,z38.F a0,z38.enc⟩
 |_=>none
def z39.l0P (a:Int) (b c:J0) {R:Type} (rec done:(Int×Int×J0)->Option R):(Int×Int×J0)->Option R:=λx=>match x with
 |(d,e,g)=>(bif (decide (e<a)) then (if 0<=e/\e<(b.length:Int) then ((z34.F c e).bind λh=>((z1.F (b.getD (e).toNat 0) h d).bind λj=>(if 0<=e/\e<(g.length:Int) then (if (e).toNat<g.length then (rec (j.2,(wr .i64 (e+1)),(g.set (e).toNat j.1))) else none) else none))) else none) else (done (d,e,g)))
def z39.l0 (a:Int) (b c:J0) (x:(Int×Int×J0)):Option ((Int×Int×J0)):=lfp (λrec x=>z39.l0P a b c rec some x) x
def z39.F (a0 a1:J0):Option (J0×Bool):=
 ((z13.F a0 a1).bind λr1=>(bif (decide (r1<0)) then (some ([],false)) else (if 0<=(((a0).length:Nat):Int)/\(((a0).length:Nat):Int)*8<=140737488355328 then ((z39.l0 ((((List.replicate ((((a0).length:Nat):Int)).toNat (0:Int))).length:Nat):Int) a0 a1 ((0:Int),(0:Int),(List.replicate ((((a0).length:Nat):Int)).toNat (0:Int)))).bind λo2=>((z14.F o2.2.2).bind λr3=>(some (r3,true)))) else none)))
def z39.enc (r:J0×Bool):V:=(.tup [(.agg [(.ints false .u64 r.1)]),(.bool r.2)])
def z39.pack:List V->Option Pack
 |[(.agg [(.ints _ .u64 a0)]),(.agg [(.ints _ .u64 a1)])]=>some ⟨J0×Bool,z39.F a0 a1,z39.enc⟩
 |_=>none
def z40.F (a0:J0) (a1:Bool) (a2:J0) (a3:Bool):Option (J0×Bool):=
 (bif (decide (a1=a3)) then ((z35.F a0 a2).bind λr1=>((z30.F r1 a1).bind λr2=>(some (r2.1,r2.2)))) else ((z39.F a0 a2).bind λr3=>(bif r3.2 then ((z30.F r3.1 a1).bind λr4=>(some (r4.1,r4.2))) else ((z39.F a2 a0).bind λr5=>((z30.F r5.1 a3).bind λr6=>(some (r6.1,r6.2)))))))
def z40.pack:List V->Option Pack
 |[(.agg [(.ints _ .u64 a0),(.bool a1)]),(.agg [(.ints _ .u64 a2),(.bool a3)])]=>some ⟨J0×Bool,z40.F a0 a1 a2 a3,z30.enc⟩
 |_=>none
def z41.F (a0:J0) (a1:Bool):Option (J0×Bool):=
 ((z30.F a0 (!a1)).bind λr1=>(some (r1.1,r1.2)))
def z41.pack:List V->Option Pack
 |[(.agg [(.ints _ .u64 a0),(.bool a1)])]=>some ⟨J0×Bool,z41.F a0 a1,z30.enc⟩
 |_=>none
def z42.F (a0:J0) (a1:Bool) (a2:J0) (a3:Bool):Option (J0×Bool):=
 ((z41.F a2 a3).bind λr1=>((z40.F a0 a1 r1.1 r1.2).bind λr2=>(some (r2.1,r2.2))))
def z42.pack:List V->Option Pack
 |[(.agg [(.ints _ .u64 a0),(.bool a1)]),(.agg [(.ints _ .u64 a2),(.bool a3)])]=>some ⟨J0×Bool,z42.F a0 a1 a2 a3,z30.enc⟩
 |_=>none
def z43.F (a0:J0) (a1:Bool) (a2:J0) (a3:Bool):Option (Int):=
 ((z42.F a0 a1 a2 a3).bind λr1=>((z29.F r1.1 r1.2).bind λr2=>(some r2)))
def z43.pack:List V->Option Pack
 |[(.agg [(.ints _ .u64 a0),(.bool a1)]),(.agg [(.ints _ .u64 a2),(.bool a3)])]=>some ⟨Int,z43.F a0 a1 a2 a3,z10.enc⟩
 |_=>none
def z44.l0P {R:Type} (rec done:(Int×J0×J0)->Option R):(Int×J0×J0)->Option R:=λx=>match x with
 |(a,b,c)=>(bif (decide (a>0)) then (bif (decide ((wr .i64 ((BitVec.ofInt (IntKind.bits .i64) a &&& BitVec.ofInt (IntKind.bits .i64) 1).toNat:Int))=1)) then ((z36.F c b).bind λd=>(bif (decide (a>1)) then ((z36.F b b).bind λe=>(rec ((Int.fdiv a (2^(min 1 (64:Nat)))),e,d))) else (rec ((Int.fdiv a (2^(min 1 (64:Nat)))),b,d)))) else (bif (decide (a>1)) then ((z36.F b b).bind λg=>(rec ((Int.fdiv a (2^(min 1 (64:Nat)))),g,c))) else (rec ((Int.fdiv a (2^(min 1 (64:Nat)))),b,c)))) else (done (a,b,c)))
def z44.l0 (x:(Int×J0×J0)):Option ((Int×J0×J0)):=lfp (λrec x=>z44.l0P rec some x) x
def z44.F (a0:J0) (a1:Int):Option (J0):=
 ((z15.F [(1:Int)]).bind λr1=>((z44.l0 (a1,a0,r1)).bind λo2=>(some o2.2.2)))
def z44.pack:List V->Option Pack
 |[(.agg [(.ints _ .u64 a0)]),(.int .i64 a1)]=>some ⟨J0,z44.F a0 a1,z14.enc⟩
 |_=>none
def z45.F (a0:Int):Option (J0×Int):=
 (bif (decide (a0<0)) then (some ([],(2:Int))) else (bif (decide (a0>4096)) then (some ([],(6:Int))) else ((z15.F [(10:Int)]).bind λr1=>((z44.F r1 a0).bind λr2=>(some (r2,(0:Int)))))))
def z45.pack:List V->Option Pack
 |[(.int .i64 a0)]=>some ⟨J0×Int,z45.F a0,z23.enc⟩
 |_=>none
def z46.F:Option (J0×Bool):=
 ((z45.F 30).bind λr1=>((z30.F r1.1 false).bind λr2=>(some (r2.1,r2.2))))
def z46.pack:List V->Option Pack
 |[]=>some ⟨J0×Bool,z46.F,z30.enc⟩
 |_=>none
def z47.F (a0:J1):Option (J0×Bool×Int):=
 ((z38.F a0).bind λr1=>(bif (!decide (r1.2.2=0)) then (some ([],false,r1.2.2)) else ((z29.F r1.1 r1.2.1).bind λr2=>(bif (decide (r2<0)) then (some ([],false,(19:Int))) else (z46.F.bind λr3=>((z43.F r1.1 r1.2.1 r3.1 r3.2).bind λr4=>(bif (decide (r4>0)) then (some ([],false,(19:Int))) else (some (r1.1,r1.2.1,(0:Int))))))))))
def z47.pack:List V->Option Pack
 |[(.str a0)]=>some ⟨J0×Bool×Int,z47.F a0,z38.enc⟩
 |_=>none
def z48.F (a0:J1):Option (Int):=
 ((z47.F a0).bind λr1=>(bif (decide (r1.2.2=0)) then ((z29.F r1.1 r1.2.1).bind λr2=>(bif (decide (r2=0)) then (some 19) else (some r1.2.2))) else (some r1.2.2)))
def z48.pack:List V->Option Pack
 |[(.str a0)]=>some ⟨Int,z48.F a0,z10.enc⟩
 |_=>none
def z49.F (a0:J1):Option (Bool):=
 (bif (!decide (a0=([]:J1))) then ((z3.F a0 ([48,49,50,51,52,53,54,55,56,57]:J1)).bind λr1=>(some (decide (r1=([]:J1))))) else (some false))
def z49.pack:List V->Option Pack
 |[(.str a0)]=>some ⟨Bool,z49.F a0,z8.enc⟩
 |_=>none
def z50.j8 (j8:J1) (r1:J1×Bool):Option (J0×Bool×Int×Int):=
 ((z37.F j8).bind λr9=>((z30.F r9.1 r1.2).bind λr10=>(some (r10.1,r10.2,((r1.1.drop 1).length:Int),(0:Int)))))
def z50.j6 (j6:Bool) (r1:J1×Bool):Option (J0×Bool×Int×Int):=
 (bif j6 then (some ([],false,(0:Int),(5:Int))) else (bif (decide (((r1.1.drop 1).length:Int)>64)) then (some ([],false,(0:Int),(10:Int))) else (if (r1.1.take 0).length+(r1.1.drop 1).length<=9223372036854775807 then ((z4.F ((r1.1.take 0)++(r1.1.drop 1)) ([48]:J1)).bind λr7=>(bif (decide (r7=([]:J1))) then (z50.j8 ([48]:J1) r1) else (z50.j8 r7 r1))) else none)))
def z50.j4 (j4:Bool) (r1:J1×Bool):Option (J0×Bool×Int×Int):=
 (bif j4 then (some ([],false,(0:Int),(5:Int))) else (bif r1.2 then (if (r1.1.take 0).length+(r1.1.drop 1).length<=9223372036854775807 then ((z3.F ((r1.1.take 0)++(r1.1.drop 1)) ([48]:J1)).bind λr5=>(z50.j6 (decide (r5=([]:J1))) r1)) else none) else (z50.j6 false r1)))
def z50.j18 (j18:J1) (r1:J1×Bool) (r11:Int):Option (J0×Bool×Int×Int):=
 ((z37.F j18).bind λr19=>((z30.F r19.1 r1.2).bind λr20=>(some (r20.1,r20.2,((r1.1.drop ((wr .i64 (r11+1))).toNat).length:Int),(0:Int)))))
def z50.j16 (j16:Bool) (r1:J1×Bool) (r11:Int):Option (J0×Bool×Int×Int):=
 (bif j16 then (some ([],false,(0:Int),(5:Int))) else (bif (decide (((r1.1.drop ((wr .i64 (r11+1))).toNat).length:Int)>64)) then (some ([],false,(0:Int),(10:Int))) else (if (r1.1.take (r11).toNat).length+(r1.1.drop ((wr .i64 (r11+1))).toNat).length<=9223372036854775807 then ((z4.F ((r1.1.take (r11).toNat)++(r1.1.drop ((wr .i64 (r11+1))).toNat)) ([48]:J1)).bind λr17=>(bif (decide (r17=([]:J1))) then (z50.j18 ([48]:J1) r1 r11) else (z50.j18 r17 r1 r11))) else none)))
def z50.j14 (j14:Bool) (r1:J1×Bool) (r11:Int):Option (J0×Bool×Int×Int):=
 (bif j14 then (some ([],false,(0:Int),(5:Int))) else (bif r1.2 then (if (r1.1.take (r11).toNat).length+(r1.1.drop ((wr .i64 (r11+1))).toNat).length<=9223372036854775807 then ((z3.F ((r1.1.take (r11).toNat)++(r1.1.drop ((wr .i64 (r11+1))).toNat)) ([48]:J1)).bind λr15=>(z50.j16 (decide (r15=([]:J1))) r1 r11)) else none) else (z50.j16 false r1 r11)))
def z50.j26 (j26:J1) (r1:J1×Bool):Option (J0×Bool×Int×Int):=
 ((z37.F j26).bind λr27=>((z30.F r27.1 r1.2).bind λr28=>(some (r28.1,r28.2,(0:Int),(0:Int)))))
def z50.j24 (r1:J1×Bool):Option (J0×Bool×Int×Int):=
 (if r1.1.length+([]:J1).length<=9223372036854775807 then ((z4.F (r1.1++([]:J1)) ([48]:J1)).bind λr25=>(bif (decide (r25=([]:J1))) then (z50.j26 ([48]:J1) r1) else (z50.j26 r25 r1))) else none)
def z50.j22 (j22:Bool) (r1:J1×Bool):Option (J0×Bool×Int×Int):=
 (bif j22 then (some ([],false,(0:Int),(5:Int))) else (bif r1.2 then (if r1.1.length+([]:J1).length<=9223372036854775807 then ((z3.F (r1.1++([]:J1)) ([48]:J1)).bind λr23=>(bif (decide (r23=([]:J1))) then (some ([],false,(0:Int),(5:Int))) else (z50.j24 r1))) else none) else (z50.j24 r1)))
def z50.F (a0:J1):Option (J0×Bool×Int×Int):=
 (bif (decide ((a0.length:Int)>4096)) then (some ([],false,(0:Int),(7:Int))) else ((z33.F a0 ([45]:J1)).bind λr1=>(bif (decide (([46]:J1)=r1.1)) then (if (0:Int)<=(0:Int)/\(0:Int)<=((r1.1).length:Int) then (if (0:Int)<=(1:Int)/\(1:Int)<=((r1.1).length:Int) then ((z49.F (r1.1.take 0)).bind λr2=>(bif (!r2) then (z50.j4 true r1) else ((z49.F (r1.1.drop 1)).bind λr3=>(bif (!r3) then (z50.j4 true r1) else (bif (decide (((r1.1.take 0).length:Int)>1)) then (if (0:Int)<=(0:Int)/\(0:Int)<((r1.1.take 0).length:Int) then (z50.j4 (decide ((((r1.1.take 0).getD 0 0).toNat:Int)=48)) r1) else none) else (z50.j4 false r1)))))) else none) else none) else (if (0:Int)<=(0:Int)/\(0:Int)<(([46]:J1).length:Int) then ((z2.F r1.1 ((([46]:J1).getD 0 0).toNat:Int)).bind λr11=>(bif (decide (r11>=0)) then (if 0<=r11/\r11<=((r1.1).length:Int) then (if 0<=(wr .i64 (r11+1))/\(wr .i64 (r11+1))<=((r1.1).length:Int) then ((z49.F (r1.1.take (r11).toNat)).bind λr12=>(bif (!r12) then (z50.j14 true r1 r11) else ((z49.F (r1.1.drop ((wr .i64 (r11+1))).toNat)).bind λr13=>(bif (!r13) then (z50.j14 true r1 r11) else (bif (decide (((r1.1.take (r11).toNat).length:Int)>1)) then (if (0:Int)<=(0:Int)/\(0:Int)<((r1.1.take (r11).toNat).length:Int) then (z50.j14 (decide ((((r1.1.take (r11).toNat).getD 0 0).toNat:Int)=48)) r1 r11) else none) else (z50.j14 false r1 r11)))))) else none) else none) else ((z49.F r1.1).bind λr21=>(bif (!r21) then (z50.j22 true r1) else (bif (decide ((r1.1.length:Int)>1)) then (if (0:Int)<=(0:Int)/\(0:Int)<(r1.1.length:Int) then (z50.j22 (decide (((r1.1.getD 0 0).toNat:Int)=48)) r1) else none) else (z50.j22 false r1)))))) else none))))
def z50.enc (r:J0×Bool×Int×Int):V:=(.tup [(.agg [(.ints false .u64 r.1),(.bool r.2.1),(.int .i64 r.2.2.1)]),(.int .i64 r.2.2.2)])
def z50.pack:List V->Option Pack
 |[(.str a0)]=>some ⟨J0×Bool×Int×Int,z50.F a0,z50.enc⟩
 |_=>none
def z51.F (a0:Int):Option (Bool):=
 (bif (decide (a0<0)) then (some true) else (some (decide (a0>64))))
def z51.pack:List V->Option Pack
 |[(.int .i64 a0)]=>some ⟨Bool,z51.F a0,z8.enc⟩
 |_=>none
def z52.F (a0:J0) (a1:Bool) (a2:Int):Option (J0×Bool×Int×Int):=
 ((z51.F a2).bind λr1=>(bif r1 then (some ([],false,(0:Int),(10:Int))) else (some (a0,a1,a2,(0:Int)))))
def z52.pack:List V->Option Pack
 |[(.agg [(.ints _ .u64 a0),(.bool a1)]),(.int .i64 a2)]=>some ⟨J0×Bool×Int×Int,z52.F a0 a1 a2,z50.enc⟩
 |_=>none
def z53.F (a0:J0) (a1:Bool) (a2:Int):Option (Int):=
 (some a2)
def z53.pack:List V->Option Pack
 |[(.agg [(.ints _ .u64 a0),(.bool a1),(.int .i64 a2)])]=>some ⟨Int,z53.F a0 a1 a2,z10.enc⟩
 |_=>none
def z54.F (a0:J0) (a1:Bool) (a2:Int):Option (J0×Bool):=
 (some (a0,a1))
def z54.pack:List V->Option Pack
 |[(.agg [(.ints _ .u64 a0),(.bool a1),(.int .i64 a2)])]=>some ⟨J0×Bool,z54.F a0 a1 a2,z30.enc⟩
 |_=>none
def z55.F (a0:Int):Option (J0×Bool):=
 (bif (decide (a0<0)) then ((z15.F [(wr .u64 (0-(wr .u64 a0)))]).bind λr1=>((z30.F r1 true).bind λr2=>(some (r2.1,r2.2)))) else ((z15.F [(wr .u64 a0)]).bind λr3=>((z30.F r3 false).bind λr4=>(some (r4.1,r4.2)))))
def z55.pack:List V->Option Pack
 |[(.int .i64 a0)]=>some ⟨J0×Bool,z55.F a0,z30.enc⟩
 |_=>none
def z56.F (a0:Int):Option (J0×Bool):=
 ((z45.F a0).bind λr1=>((z30.F r1.1 false).bind λr2=>(some (r2.1,r2.2))))
def z56.pack:List V->Option Pack
 |[(.int .i64 a0)]=>some ⟨J0×Bool,z56.F a0,z30.enc⟩
 |_=>none
def z57.F (a0:J0) (a1:Bool) (a2:J0) (a3:Bool):Option (J0×Bool):=
 ((z36.F a0 a2).bind λr1=>((z30.F r1 (!decide (a1=a3))).bind λr2=>(some (r2.1,r2.2))))
def z57.pack:List V->Option Pack
 |[(.agg [(.ints _ .u64 a0),(.bool a1)]),(.agg [(.ints _ .u64 a2),(.bool a3)])]=>some ⟨J0×Bool,z57.F a0 a1 a2 a3,z30.enc⟩
 |_=>none
def z58.F (a0:J0) (a1:Bool) (a2 a3:Int):Option (J0×Bool):=
 ((z56.F (wr .i64 (a3-a2))).bind λr1=>((z57.F a0 a1 r1.1 r1.2).bind λr2=>(some (r2.1,r2.2))))
def z58.pack:List V->Option Pack
 |[(.agg [(.ints _ .u64 a0),(.bool a1),(.int .i64 a2)]),(.int .i64 a3)]=>some ⟨J0×Bool,z58.F a0 a1 a2 a3,z30.enc⟩
 |_=>none
def z59.F (a0:J0) (a1:Bool) (a2:Int) (a3:J0) (a4:Bool) (a5:Int):Option (Int):=
 ((z58.F a0 a1 a2 (if a5>a2 then a5 else a2)).bind λr1=>((z58.F a3 a4 a5 (if a5>a2 then a5 else a2)).bind λr2=>((z43.F r1.1 r1.2 r2.1 r2.2).bind λr3=>(some r3))))
def z59.pack:List V->Option Pack
 |[(.agg [(.ints _ .u64 a0),(.bool a1),(.int .i64 a2)]),(.agg [(.ints _ .u64 a3),(.bool a4),(.int .i64 a5)])]=>some ⟨Int,z59.F a0 a1 a2 a3 a4 a5,z10.enc⟩
 |_=>none
def z60.F (a0:J0) (a1:Bool):Option (J0):=
 (some a0)
def z60.pack:List V->Option Pack
 |[(.agg [(.ints _ .u64 a0),(.bool a1)])]=>some ⟨J0,z60.F a0 a1,z14.enc⟩
 |_=>none
def z61.l0P {R:Type} (rec done:(J0×J0)->Option R):(J0×J0)->Option R:=λx=>match x with
 |(a,b)=>((z8.F b).bind λc=>(bif (!c) then ((z25.F a b).bind λd=>(rec (b,d.2.1))) else (done (a,b))))
def z61.l0 (x:(J0×J0)):Option ((J0×J0)):=lfp (λrec x=>z61.l0P rec some x) x
def z61.F (a0 a1:J0):Option (J0):=
 ((z61.l0 (a0,a1)).bind λo1=>(some o1.1))
def z61.pack:List V->Option Pack
 |[(.agg [(.ints _ .u64 a0)]),(.agg [(.ints _ .u64 a1)])]=>some ⟨J0,z61.F a0 a1,z14.enc⟩
 |_=>none
def z62.F (a0:J0) (a1:Bool) (a2:J0):Option (J0×Bool×J0):=
 ((z60.F a0 a1).bind λr1=>((z61.F r1 a2).bind λr2=>((z60.F a0 a1).bind λr3=>((z25.F r3 r2).bind λr4=>((z25.F a2 r2).bind λr5=>((z15.F [(1:Int)]).bind λr6=>((z39.F r5.1 r6).bind λr7=>((z29.F a0 a1).bind λr8=>((z30.F r4.1 (decide (r8<0))).bind λr9=>(some (r9.1,r9.2,r7.1)))))))))))
def z62.enc (r:J0×Bool×J0):V:=(.agg [(.ints false .u64 r.1),(.bool r.2.1),(.ints false .u64 r.2.2)])
def z62.pack:List V->Option Pack
 |[(.agg [(.ints _ .u64 a0),(.bool a1)]),(.agg [(.ints _ .u64 a2)])]=>some ⟨J0×Bool×J0,z62.F a0 a1 a2,z62.enc⟩
 |_=>none
def z63.j4 (a2:J0) (a3:Bool) (j3:J0) (j4:Bool):Option (J0×Bool×J0×Int):=
 ((z60.F a2 a3).bind λr5=>((z62.F j3 j4 r5).bind λr6=>(some (r6.1,r6.2.1,r6.2.2,(0:Int)))))
def z63.F (a0:J0) (a1:Bool) (a2:J0) (a3:Bool):Option (J0×Bool×J0×Int):=
 ((z29.F a2 a3).bind λr1=>(bif (decide (r1=0)) then (some ([],false,[],(8:Int))) else (bif (decide (r1=(-1:Int))) then ((z41.F a0 a1).bind λr2=>(z63.j4 a2 a3 r2.1 r2.2)) else (z63.j4 a2 a3 a0 a1))))
def z63.enc (r:J0×Bool×J0×Int):V:=(.tup [(.agg [(.ints false .u64 r.1),(.bool r.2.1),(.ints false .u64 r.2.2.1)]),(.int .i64 r.2.2.2)])
def z63.pack:List V->Option Pack
 |[(.agg [(.ints _ .u64 a0),(.bool a1)]),(.agg [(.ints _ .u64 a2),(.bool a3)])]=>some ⟨J0×Bool×J0×Int,z63.F a0 a1 a2 a3,z63.enc⟩
 |_=>none
def z64.F (a0:J0) (a1:Bool) (a2:Int):Option (J0×Bool×J0):=
 ((z56.F a2).bind λr1=>((z63.F a0 a1 r1.1 r1.2).bind λr2=>(some (r2.1,r2.2.1,r2.2.2.1))))
def z64.pack:List V->Option Pack
 |[(.agg [(.ints _ .u64 a0),(.bool a1),(.int .i64 a2)])]=>some ⟨J0×Bool×J0,z64.F a0 a1 a2,z62.enc⟩
 |_=>none
def z65.F (a0:J0) (a1:Bool) (a2:J0):Option (J0):=
 ((z15.F [(1:Int)]).bind λr1=>((z35.F a2 r1).bind λr2=>(some r2)))
def z65.pack:List V->Option Pack
 |[(.agg [(.ints _ .u64 a0),(.bool a1),(.ints _ .u64 a2)])]=>some ⟨J0,z65.F a0 a1 a2,z14.enc⟩
 |_=>none
def z66.F (a0:J0) (a1:Bool) (a2:J0):Option (J0×Bool):=
 ((z65.F a0 a1 a2).bind λr1=>((z30.F r1 false).bind λr2=>(some (r2.1,r2.2))))
def z66.pack:List V->Option Pack
 |[(.agg [(.ints _ .u64 a0),(.bool a1),(.ints _ .u64 a2)])]=>some ⟨J0×Bool,z66.F a0 a1 a2,z30.enc⟩
 |_=>none
def z67.F (a0:J0) (a1:Bool) (a2 a3:J0) (a4:Bool) (a5:J0):Option (J0×Bool×J0×Int):=
 ((z66.F a3 a4 a5).bind λr1=>((z57.F a0 a1 r1.1 r1.2).bind λr2=>((z66.F a0 a1 a2).bind λr3=>((z57.F r3.1 r3.2 a3 a4).bind λr4=>((z63.F r2.1 r2.2 r4.1 r4.2).bind λr5=>(some (r5.1,r5.2.1,r5.2.2.1,r5.2.2.2)))))))
def z67.pack:List V->Option Pack
 |[(.agg [(.ints _ .u64 a0),(.bool a1),(.ints _ .u64 a2)]),(.agg [(.ints _ .u64 a3),(.bool a4),(.ints _ .u64 a5)])]=>some ⟨J0×Bool×J0×Int,z67.F a0 a1 a2 a3 a4 a5,z63.enc⟩
 |_=>none
def z68.F (a0:J0) (a1:Bool):Option (J0×Bool×J0):=
 (some (a0,a1,[]))
def z68.pack:List V->Option Pack
 |[(.agg [(.ints _ .u64 a0),(.bool a1)])]=>some ⟨J0×Bool×J0,z68.F a0 a1,z62.enc⟩
 |_=>none
def z69.j8 (r1:J0×Bool×Int×Int):Option (J0×Bool×J0×Int):=
 ((z64.F r1.1 r1.2.1 r1.2.2.1).bind λr9=>((z55.F 100).bind λr10=>((z68.F r10.1 r10.2).bind λr11=>((z67.F r9.1 r9.2.1 r9.2.2 r11.1 r11.2.1 r11.2.2).bind λr12=>(some (r12.1,r12.2.1,r12.2.2.1,r12.2.2.2))))))
def z69.F (a0:J1):Option (J0×Bool×J0×Int):=
 ((z50.F a0).bind λr1=>(bif (!decide (r1.2.2.2=0)) then (some ([],false,[],r1.2.2.2)) else ((z55.F 1000).bind λr2=>((z52.F r2.1 r2.2 0).bind λr3=>((z54.F r1.1 r1.2.1 r1.2.2.1).bind λr4=>((z29.F r4.1 r4.2).bind λr5=>(bif (decide (r5<0)) then (some ([],false,[],(18:Int))) else ((z59.F r1.1 r1.2.1 r1.2.2.1 r3.1 r3.2.1 r3.2.2.1).bind λr6=>(bif (decide (r6>0)) then (some ([],false,[],(18:Int))) else ((z53.F r1.1 r1.2.1 r1.2.2.1).bind λr7=>(bif (decide (r7>12)) then (some ([],false,[],(18:Int))) else (z69.j8 r1))))))))))))
def z69.pack:List V->Option Pack
 |[(.str a0)]=>some ⟨J0×Bool×J0×Int,z69.F a0,z63.enc⟩
 |_=>none
def z70.F (a0 a1 a2 a3:Int) (a4:J1):Option (Int):=
 (bif (decide (a0=0)) then (bif (decide (a4=([100,117,101]:J1))) then (some 0) else ((z48.F a4).bind λr1=>(some r1))) else (bif (decide (a0=1)) then ((z48.F a4).bind λr2=>(some r2)) else (bif (decide (a0=2)) then ((z69.F a4).bind λr3=>(some r3.2.2.2)) else (bif (!decide (a4=([]:J1))) then (some 4) else (some 0)))))
def z70.pack:List V->Option Pack
 |[(.agg [(.int .i64 a0),(.int .i64 a1),(.int .i64 a2),(.int .i64 a3),(.str a4)])]=>some ⟨Int,z70.F a0 a1 a2 a3 a4,z10.enc⟩
 |_=>none
def z71.F (a0:J1):Option (J0×Bool×Int):=
 ((z50.F a0).bind λr1=>(bif (!decide (r1.2.2.2=0)) then (some ([],false,r1.2.2.2)) else ((z53.F r1.1 r1.2.1 r1.2.2.1).bind λr2=>(bif (!decide (r2=2)) then (some ([],false,(10:Int))) else ((z54.F r1.1 r1.2.1 r1.2.2.1).bind λr3=>(some (r3.1,r3.2,(0:Int))))))))
def z71.pack:List V->Option Pack
 |[(.str a0)]=>some ⟨J0×Bool×Int,z71.F a0,z38.enc⟩
 |_=>none
def z72.j3 (j3:Bool) (r1:Int×J1×Int×J2×Int×Int) (a3 a4 a5 a6:Int) (a7:J1):Option (Int×J2×Int×Int×Int×Int×Int×Int×J1):=
 (bif j3 then (some ((0:Int),r1.2.2.2.1,r1.2.2.2.2.1,r1.2.2.2.2.2,a3,a4,a5,a6,([100,117,101]:J1))) else (bif (!decide (r1.1=1)) then (some ((4:Int),r1.2.2.2.1,r1.2.2.2.2.1,r1.2.2.2.2.2,a3,a4,a5,a6,a7)) else (bif (decide (a3=2)) then ((z70.F a3 a4 a5 a6 r1.2.1).bind λr4=>(some (r4,r1.2.2.2.1,r1.2.2.2.2.1,r1.2.2.2.2.2,a3,a4,a5,a6,r1.2.1))) else ((z71.F r1.2.1).bind λr5=>(bif (!decide (r5.2.2=0)) then (some (r5.2.2,r1.2.2.2.1,r1.2.2.2.2.1,r1.2.2.2.2.2,a3,a4,a5,a6,a7)) else ((z28.F r5.1 r5.2.1).bind λr6=>((z70.F a3 a4 a5 a6 r6).bind λr7=>(some (r7,r1.2.2.2.1,r1.2.2.2.2.1,r1.2.2.2.2.2,a3,a4,a5,a6,r6)))))))))
def z72.j2 (j2:Bool) (r1:Int×J1×Int×J2×Int×Int) (a3 a4 a5 a6:Int) (a7:J1):Option (Int×J2×Int×Int×Int×Int×Int×Int×J1):=
 (bif j2 then (some ((14:Int),r1.2.2.2.1,r1.2.2.2.2.1,r1.2.2.2.2.2,a3,a4,a5,a6,a7)) else (bif (decide (r1.1=0)) then (z72.j3 (decide (a3=0)) r1 a3 a4 a5 a6 a7) else (z72.j3 false r1 a3 a4 a5 a6 a7)))
def z72.F (a0:J2) (a1 a2 a3 a4 a5 a6:Int) (a7:J1):Option (Int×J2×Int×Int×Int×Int×Int×Int×J1):=
 ((z7.F a0 a1 a2).bind λr1=>(bif (decide (r1.1=0)) then (bif (decide (a3=0)) then (z72.j2 (!decide (r1.2.1=([100,117,101]:J1))) r1 a3 a4 a5 a6 a7) else (z72.j2 false r1 a3 a4 a5 a6 a7)) else (z72.j2 false r1 a3 a4 a5 a6 a7)))
def z72.enc (r:Int×J2×Int×Int×Int×Int×Int×Int×J1):V:=(.int .i64 r.1)
def z72.encC (r:Int×J2×Int×Int×Int×Int×Int×Int×J1):J2:=[[(.recs false 3 r.2.1),(.int .i64 r.2.2.1),(.int .i64 r.2.2.2.1)],[(.int .i64 r.2.2.2.2.1),(.int .i64 r.2.2.2.2.2.1),(.int .i64 r.2.2.2.2.2.2.1),(.int .i64 r.2.2.2.2.2.2.2.1),(.str r.2.2.2.2.2.2.2.2)]]
def z72.pk:J2->List V->Option Qa8
 |[[(.recs _ 3 a0),(.int .i64 a1),(.int .i64 a2)],[(.int .i64 a3),(.int .i64 a4),(.int .i64 a5),(.int .i64 a6),(.str a7)]],[]=>some ⟨Int×J2×Int×Int×Int×Int×Int×Int×J1,z72.F a0 a1 a2 a3 a4 a5 a6 a7,z72.enc,z72.encC⟩
 |_,_=>none
def z73.l0P (a:Int) (b:J0) (c:Int) {R:Type} (rec:Int->Option R) (done:((Int)⊕(Int))->Option R):Int->Option R:=λd=>(bif (decide (d<c)) then (if 0<=d/\d<(b.length:Int) then (bif (!decide ((b.getD (d).toNat 0)=a)) then (done (.inr (b.getD (d).toNat 0))) else (rec (wr .i64 (d+1)))) else none) else (done (.inl d)))
def z73.l0 (a:Int) (b:J0) (c x:Int):Option (((Int)⊕(Int))):=lfp (λrec x=>z73.l0P a b c rec some x) x
def z73.F (a0:J0):Option (Int):=
 ((z73.l0 0 a0 (((a0).length:Nat):Int) 0).bind λo1=>match o1 with | .inl p2=>(some 0) | .inr q3=>(some q3))
def z73.pack:List V->Option Pack
 |[(.ints _ .i64 a0)]=>some ⟨Int,z73.F a0,z10.enc⟩
 |_=>none
def z74.F (a0 a1 a2 a3 a4 a5:Int):Option (Int):=
 ((z10.F a0 a3).bind λr1=>((z10.F a1 a4).bind λr2=>((z10.F a2 a5).bind λr3=>((z73.F [r1,r2,r3]).bind λr4=>(some r4)))))
def z74.pack:List V->Option Pack
 |[(.agg [(.int .i64 a0),(.int .i64 a1),(.int .i64 a2)]),(.agg [(.int .i64 a3),(.int .i64 a4),(.int .i64 a5)])]=>some ⟨Int,z74.F a0 a1 a2 a3 a4 a5,z10.enc⟩
 |_=>none
def z75.l0P (a:List J1) (b:J1) (c:Int) {R:Type} (rec:Int->Option R) (done:((Int)⊕(Int))->Option R):Int->Option R:=λd=>(bif (decide (d<c)) then (if 0<=d/\d<(a.length:Int) then (bif (decide (b=(a.getD (d).toNat []))) then (done (.inr d)) else (rec (wr .i64 (d+1)))) else none) else (done (.inl d)))
def z75.l0 (a:List J1) (b:J1) (c x:Int):Option (((Int)⊕(Int))):=lfp (λrec x=>z75.l0P a b c rec some x) x
def z75.F (a0:List J1) (a1:J1):Option (Int):=
 ((z75.l0 a0 a1 (((a0).length:Nat):Int) 0).bind λo1=>match o1 with | .inl p2=>(some (-1:Int)) | .inr q3=>(some q3))
def z75.pack:List V->Option Pack
 |[(.strs _ a0),(.str a1)]=>some ⟨Int,z75.F a0 a1,z10.enc⟩
 |_=>none
def z76.F:Option ((List J1)):=
 (some [([112,97,121]:J1),([112,114,101,112,97,121]:J1),([114,101,115,101,116]:J1),([112,97,115,115]:J1)])
def z76.enc (r:(List J1)):V:=(.strs false r)
def z76.pack:List V->Option Pack
 |[]=>some ⟨(List J1),z76.F,z76.enc⟩
 |_=>none
def z77.F (a0:Int):Option (Bool):=
 (bif (decide (a0>=1)) then (some (decide (a0<=9999))) else (some false))
def z77.pack:List V->Option Pack
 |[(.int .i64 a0)]=>some ⟨Bool,z77.F a0,z8.enc⟩
 |_=>none
def z78.F (a0:Int):Option (Bool):=
 ((z77.F a0).bind λr1=>(bif r1 then (bif (decide ((Int.tmod a0 4)=0)) then (bif (!decide ((Int.tmod a0 100)=0)) then (some true) else (some (decide ((Int.tmod a0 400)=0)))) else (some (decide ((Int.tmod a0 400)=0)))) else (some false)))
def z78.pack:List V->Option Pack
 |[(.int .i64 a0)]=>some ⟨Bool,z78.F a0,z8.enc⟩
 |_=>none
def z79.j10 (a1:Int):Option (Int):=
 (if 0<=(wr .i64 (a1-1))/\(wr .i64 (a1-1))<12 then (V.asInt .i64 (([(.int .i64 31),(.int .i64 28),(.int .i64 31),(.int .i64 30),(.int .i64 31),(.int .i64 30),(.int .i64 31),(.int .i64 31),(.int .i64 30),(.int .i64 31),(.int .i64 30),(.int .i64 31)]:List V).getD ((wr .i64 (a1-1))).toNat .undef) λc11=>(some c11)) else none)
def z79.F (a0 a1:Int):Option (Int):=
 ((z77.F a0).bind λr1=>(bif (!r1) then (some 0) else (bif (decide (a1<1)) then (some 0) else (bif (decide (a1>12)) then (some 0) else (bif (decide (a1=2)) then ((z78.F a0).bind λr9=>(bif r9 then (some 29) else (z79.j10 a1))) else (z79.j10 a1))))))
def z79.pack:List V->Option Pack
 |[(.int .i64 a0),(.int .i64 a1)]=>some ⟨Int,z79.F a0 a1,z10.enc⟩
 |_=>none
def z80.F (a0 a1 a2:Int):Option (Int):=
 (bif (decide (a2<1)) then (some 11) else ((z79.F a0 a1).bind λr1=>(bif (decide (a2>r1)) then (some 11) else (some 0))))
def z80.pack:List V->Option Pack
 |[(.agg [(.int .i64 a0),(.int .i64 a1),(.int .i64 a2)])]=>some ⟨Int,z80.F a0 a1 a2,z10.enc⟩
 |_=>none
def z81.l0P (a:J1) (b:Int) {R:Type} (rec:(Int×Int)->Option R) (done:((Int×Int)⊕(Int×Bool))->Option R):(Int×Int)->Option R:=λx=>match x with
 |(c,d)=>(bif (decide (d<b)) then (if 0<=d/\d<(a.length:Int) then (bif (decide (((a.getD (d).toNat 0).toNat:Int)<48)) then (done (.inr ((0:Int),false))) else (if 0<=d/\d<(a.length:Int) then (bif (decide (((a.getD (d).toNat 0).toNat:Int)>57)) then (done (.inr ((0:Int),false))) else (if 0<=d/\d<(a.length:Int) then (rec ((wr .i64 ((wr .i64 ((10:Int)*c))+(wr .i64 (wr .u8 (((a.getD (d).toNat 0).toNat:Int)-48))))),(wr .i64 (d+1)))) else none)) else none)) else none) else (done (.inl (c,d))))
def z81.l0 (a:J1) (b:Int) (x:(Int×Int)):Option (((Int×Int)⊕(Int×Bool))):=lfp (λrec x=>z81.l0P a b rec some x) x
def z81.F (a0:J1):Option (Int×Bool):=
 ((z81.l0 a0 (a0.length:Int) ((0:Int),(0:Int))).bind λo1=>match o1 with | .inl p2=>(some (p2.1,true)) | .inr q3=>(some (q3.1,q3.2)))
def z81.enc (r:Int×Bool):V:=(.tup [(.int .i64 r.1),(.bool r.2)])
def z81.pack:List V->Option Pack
 |[(.str a0)]=>some ⟨Int×Bool,z81.F a0,z81.enc⟩
 |_=>none
def z82.j5 (r2 r3 r4:Int×Bool):Option (Int×Int×Int×Int):=
 ((z80.F r2.1 r3.1 r4.1).bind λr6=>(bif (!decide (r6=0)) then (some ((0:Int),(0:Int),(0:Int),r6)) else (some (r2.1,r3.1,r4.1,(0:Int)))))
def z82.j1 (a0:J1):Option (Int×Int×Int×Int):=
 (if (0:Int)<=(4:Int)/\(4:Int)<=((a0).length:Int) then ((z81.F (a0.take 4)).bind λr2=>(if (0:Int)<=(5:Int)/\(5:Int)<=(7:Int)/\(7:Int)<=((a0).length:Int) then ((z81.F ((a0.drop 5).take (7-5))).bind λr3=>(if (0:Int)<=(8:Int)/\(8:Int)<=((a0).length:Int) then ((z81.F (a0.drop 8)).bind λr4=>(bif (!r2.2) then (some ((0:Int),(0:Int),(0:Int),(4:Int))) else (bif (!r3.2) then (some ((0:Int),(0:Int),(0:Int),(4:Int))) else (bif (!r4.2) then (some ((0:Int),(0:Int),(0:Int),(4:Int))) else (z82.j5 r2 r3 r4))))) else none)) else none)) else none)
def z82.F (a0:J1):Option (Int×Int×Int×Int):=
 (bif (!decide ((a0.length:Int)=10)) then (some ((0:Int),(0:Int),(0:Int),(4:Int))) else (if (0:Int)<=(4:Int)/\(4:Int)<(a0.length:Int) then (bif (!decide (((a0.getD 4 0).toNat:Int)=45)) then (some ((0:Int),(0:Int),(0:Int),(4:Int))) else (if (0:Int)<=(7:Int)/\(7:Int)<(a0.length:Int) then (bif (!decide (((a0.getD 7 0).toNat:Int)=45)) then (some ((0:Int),(0:Int),(0:Int),(4:Int))) else (z82.j1 a0)) else none)) else none))
def z82.enc (r:Int×Int×Int×Int):V:=(.tup [(.agg [(.int .i64 r.1),(.int .i64 r.2.1),(.int .i64 r.2.2.1)]),(.int .i64 r.2.2.2)])
def z82.pack:List V->Option Pack
 |[(.str a0)]=>some ⟨Int×Int×Int×Int,z82.F a0,z82.enc⟩
 |_=>none
def z83.j15 (j8:J2) (j9 j10 j11 j12 j13 j14:Int) (j15:J1):Option (Int×Int×Int×Int×J1×Int×J2×Int×Int):=
 ((z7.F j8 j9 j10).bind λr16=>(bif (!decide (r16.1=3)) then (some (j11,j12,j13,j14,j15,(4:Int),r16.2.2.2.1,r16.2.2.2.2.1,r16.2.2.2.2.2)) else (bif (!decide (r16.2.1=([59]:J1))) then (some (j11,j12,j13,j14,j15,(4:Int),r16.2.2.2.1,r16.2.2.2.2.1,r16.2.2.2.2.2)) else (some (j11,j12,j13,j14,j15,(0:Int),r16.2.2.2.1,r16.2.2.2.2.1,r16.2.2.2.2.2)))))
def z83.F (a0:J2) (a1 a2 a3 a4 a5:Int):Option (Int×Int×Int×Int×J1×Int×J2×Int×Int):=
 ((z7.F a0 a1 a2).bind λr1=>(bif (!decide (r1.1=0)) then (some ((0:Int),(0:Int),(0:Int),(0:Int),([]:J1),(4:Int),r1.2.2.2.1,r1.2.2.2.2.1,r1.2.2.2.2.2)) else (z76.F.bind λr2=>((z75.F r2 r1.2.1).bind λr3=>(bif (decide (r3<0)) then (some (r3,(0:Int),(0:Int),(0:Int),([]:J1),(14:Int),r1.2.2.2.1,r1.2.2.2.2.1,r1.2.2.2.2.2)) else ((z7.F r1.2.2.2.1 r1.2.2.2.2.1 r1.2.2.2.2.2).bind λr4=>(bif (!decide (r4.1=2)) then (some (r3,(0:Int),(0:Int),(0:Int),([]:J1),(4:Int),r4.2.2.2.1,r4.2.2.2.2.1,r4.2.2.2.2.2)) else ((z82.F r4.2.1).bind λr5=>(bif (!decide (r5.2.2.2=0)) then (some (r3,(0:Int),(0:Int),(0:Int),([]:J1),r5.2.2.2,r4.2.2.2.1,r4.2.2.2.2.1,r4.2.2.2.2.2)) else ((z74.F r5.1 r5.2.1 r5.2.2.1 a3 a4 a5).bind λr6=>(bif (decide (r6<0)) then (some (r3,(0:Int),(0:Int),(0:Int),([]:J1),(12:Int),r4.2.2.2.1,r4.2.2.2.2.1,r4.2.2.2.2.2)) else (bif (!decide (r3=3)) then ((z72.F r4.2.2.2.1 r4.2.2.2.2.1 r4.2.2.2.2.2 r3 r5.1 r5.2.1 r5.2.2.1 ([]:J1)).bind λr7=>(bif (!decide (r7.1=0)) then (some (r7.2.2.2.2.1,r7.2.2.2.2.2.1,r7.2.2.2.2.2.2.1,r7.2.2.2.2.2.2.2.1,r7.2.2.2.2.2.2.2.2,r7.1,r7.2.1,r7.2.2.1,r7.2.2.2.1)) else (z83.j15 r7.2.1 r7.2.2.1 r7.2.2.2.1 r7.2.2.2.2.1 r7.2.2.2.2.2.1 r7.2.2.2.2.2.2.1 r7.2.2.2.2.2.2.2.1 r7.2.2.2.2.2.2.2.2))) else (z83.j15 r4.2.2.2.1 r4.2.2.2.2.1 r4.2.2.2.2.2 r3 r5.1 r5.2.1 r5.2.2.1 ([]:J1))))))))))))))
def z83.enc (r:Int×Int×Int×Int×J1×Int×J2×Int×Int):V:=(.tup [(.agg [(.int .i64 r.1),(.int .i64 r.2.1),(.int .i64 r.2.2.1),(.int .i64 r.2.2.2.1),(.str r.2.2.2.2.1)]),(.int .i64 r.2.2.2.2.2.1)])
def z83.encC (r:Int×Int×Int×Int×J1×Int×J2×Int×Int):J2:=[[(.recs false 3 r.2.2.2.2.2.2.1),(.int .i64 r.2.2.2.2.2.2.2.1),(.int .i64 r.2.2.2.2.2.2.2.2)]]
def z83.pk:J2->List V->Option Qa8
 |[[(.recs _ 3 a0),(.int .i64 a1),(.int .i64 a2)]],[(.agg [(.int .i64 a3),(.int .i64 a4),(.int .i64 a5)])]=>some ⟨Int×Int×Int×Int×J1×Int×J2×Int×Int,z83.F a0 a1 a2 a3 a4 a5,z83.enc,z83.encC⟩
 |_,_=>none
def z84.F (a0 a1:J1):Option (Bool):=
 ((z31.F a0 a1).bind λr1=>(some r1))
def z84.pack:List V->Option Pack
 |[(.str a0),(.str a1)]=>some ⟨Bool,z84.F a0 a1,z8.enc⟩
 |_=>none
def z85.F (a0:J1) (a1:Int):Option (Int):=
 ((z2.F a0 a1).bind λr1=>(some r1))
def z85.pack:List V->Option Pack
 |[(.str a0),(.int .u8 a1)]=>some ⟨Int,z85.F a0 a1,z10.enc⟩
 |_=>none
def z86.l0P (a:J1) {R:Type} (rec:(J1)->Option R) (done:(Int)->Option R):(J1)->Option R:=λb=>((z4.F b ([32,9,10,13]:J1)).bind λc=>((z84.F c ([35]:J1)).bind λd=>(bif (!d) then (done (wr .i64 ((a.length:Int)-(c.length:Int)))) else ((z85.F c 10).bind λe=>(bif (decide (e<0)) then (done (a.length:Int)) else (if 0<=e/\e<=((c).length:Int) then (rec (c.drop (e).toNat)) else none))))))
def z86.l0 (a:J1) (x:(J1)):Option ((Int)):=lfp (λrec x=>z86.l0P a rec some x) x
def z86.F (a0:J1):Option (Int):=
 ((z86.l0 a0 a0).bind λo1=>(some o1))
def z86.pack:List V->Option Pack
 |[(.str a0)]=>some ⟨Int,z86.F a0,z10.enc⟩
 |_=>none
def z87.F (a0:Int):Option (Bool):=
 (bif (decide (a0>=97)) then (some (decide (a0<=122))) else (some false))
def z87.pack:List V->Option Pack
 |[(.int .i32 a0)]=>some ⟨Bool,z87.F a0,z8.enc⟩
 |_=>none
def z88.F (a0:Int):Option (Bool):=
 (bif (decide (a0>=48)) then (some (decide (a0<=57))) else (some false))
def z88.pack:List V->Option Pack
 |[(.int .i32 a0)]=>some ⟨Bool,z88.F a0,z8.enc⟩
 |_=>none
def z89.F (a0:Int):Option (Bool):=
 ((z87.F a0).bind λr1=>(bif r1 then (some true) else ((z88.F a0).bind λr2=>(bif r2 then (some true) else (some (decide (a0=45)))))))
def z89.pack:List V->Option Pack
 |[(.int .i32 a0)]=>some ⟨Bool,z89.F a0,z8.enc⟩
 |_=>none
def z90.F (a0:Int):Option (Bool):=
 ((z88.F a0).bind λr1=>(bif r1 then (some true) else (bif (decide (a0=45)) then (some true) else (some (decide (a0=46))))))
def z90.pack:List V->Option Pack
 |[(.int .i32 a0)]=>some ⟨Bool,z90.F a0,z8.enc⟩
 |_=>none
def z91.l0P (a b:J1) {R:Type} (rec:Nat->Option R) (done:((Bool×Nat)⊕(Nat))->Option R):Nat->Option R:=λc=>(if c<b.length then ((z88.F ((Utf8.decode ⟨b.toArray⟩ c).1:Int)).bind λd=>(if 0<=((c:Nat):Int)/\((c:Nat):Int)<(a.length:Int) then ((z88.F (wr .i32 ((a.getD (((c:Nat):Int)).toNat 0).toNat:Int))).bind λe=>(bif (!decide (d=e)) then (done (.inl (false,(c+(Utf8.decode ⟨b.toArray⟩ c).2)))) else ((z88.F ((Utf8.decode ⟨b.toArray⟩ c).1:Int)).bind λg=>(bif (!g) then (if 0<=((c:Nat):Int)/\((c:Nat):Int)<(a.length:Int) then (bif (!decide ((wr .u8 ((Utf8.decode ⟨b.toArray⟩ c).1:Int))=((a.getD (((c:Nat):Int)).toNat 0).toNat:Int))) then (done (.inl (false,(c+(Utf8.decode ⟨b.toArray⟩ c).2)))) else (rec (c+(Utf8.decode ⟨b.toArray⟩ c).2))) else none) else (rec (c+(Utf8.decode ⟨b.toArray⟩ c).2)))))) else none)) else (done (.inr c)))
def z91.l0 (a b:J1) (x:Nat):Option (((Bool×Nat)⊕(Nat))):=lfp (λrec x=>z91.l0P a b rec some x) x
def z91.F (a0:J1):Option (Bool):=
 (bif (!decide ((a0.length:Int)=10)) then (some false) else ((z91.l0 a0 ([48,48,48,48,45,48,48,45,48,48]:J1) 0).bind λo1=>match o1 with | .inl p2=>(some p2.1) | .inr q3=>(some true)))
def z91.pack:List V->Option Pack
 |[(.str a0)]=>some ⟨Bool,z91.F a0,z8.enc⟩
 |_=>none
def z92.j1 (j1:Bool) (a0:Int):Option (Bool):=
 (bif j1 then (some true) else (bif (decide ((57343:Int)<a0)) then (bif (decide (a0<=1114111)) then (some true) else (some false)) else (some false)))
def z92.F (a0:Int):Option (Bool):=
 (bif (decide ((0:Int)<=a0)) then (z92.j1 (decide (a0<55296)) a0) else (z92.j1 false a0))
def z92.pack:List V->Option Pack
 |[(.int .i32 a0)]=>some ⟨Bool,z92.F a0,z8.enc⟩
 |_=>none
def z93.j1 (j1:Bool) (a0:J1) (a1:Int):Option (Int):=
 (bif j1 then ((z85.F a0 (wr .u8 a1)).bind λr2=>(some r2)) else (bif (decide (a1=65533)) then none else ((z92.F a1).bind λr3=>(bif (!r3) then (some (-1:Int)) else (bif (decide ((wr .i64 (((Utf8.encode a1).data.toList.length:Int)-1))<(a0.length:Int))) then (if 0<=(wr .i64 (((Utf8.encode a1).data.toList.length:Int)-1))/\(wr .i64 (((Utf8.encode a1).data.toList.length:Int)-1))<(a0.length:Int) then (if 0<=(wr .i64 (((Utf8.encode a1).data.toList.length:Int)-1))/\(wr .i64 (((Utf8.encode a1).data.toList.length:Int)-1))<((Utf8.encode a1).data.toList.length:Int) then (bif (!decide (((a0.getD ((wr .i64 (((Utf8.encode a1).data.toList.length:Int)-1))).toNat 0).toNat:Int)=(((Utf8.encode a1).data.toList.getD ((wr .i64 (((Utf8.encode a1).data.toList.length:Int)-1))).toNat 0).toNat:Int))) then (if 0<=(wr .i64 ((wr .i64 (((Utf8.encode a1).data.toList.length:Int)-1))+1))/\(wr .i64 ((wr .i64 (((Utf8.encode a1).data.toList.length:Int)-1))+1))<=((a0).length:Int) then (if 0<=(wr .i64 (((Utf8.encode a1).data.toList.length:Int)-1))/\(wr .i64 (((Utf8.encode a1).data.toList.length:Int)-1))<((Utf8.encode a1).data.toList.length:Int) then ((z85.F (a0.drop ((wr .i64 ((wr .i64 (((Utf8.encode a1).data.toList.length:Int)-1))+1))).toNat) (((Utf8.encode a1).data.toList.getD ((wr .i64 (((Utf8.encode a1).data.toList.length:Int)-1))).toNat 0).toNat:Int)).bind λr4=>(bif (decide (r4<0)) then (some (-1:Int)) else none)) else none) else none) else none) else none) else none) else (some (-1:Int)))))))
def z93.F (a0:J1) (a1:Int):Option (Int):=
 (bif (decide ((0:Int)<=a1)) then (z93.j1 (decide (a1<128)) a0 a1) else (z93.j1 false a0 a1))
def z93.pack:List V->Option Pack
 |[(.str a0),(.int .i32 a1)]=>some ⟨Int,z93.F a0 a1,z10.enc⟩
 |_=>none
def z94.F (a0:J1) (a1:Int):Option (Bool):=
 ((z93.F a0 a1).bind λr1=>(some (decide (r1>=0))))
def z94.pack:List V->Option Pack
 |[(.str a0),(.int .i32 a1)]=>some ⟨Bool,z94.F a0 a1,z8.enc⟩
 |_=>none
def z95.l0P (a b:J1) {R:Type} (rec:Nat->Option R) (done:((J1×Nat)⊕(Nat))->Option R):Nat->Option R:=λc=>(if c<b.length then ((z89.F ((Utf8.decode ⟨b.toArray⟩ c).1:Int)).bind λd=>(bif (!d) then (if 0<=((c:Nat):Int)/\((c:Nat):Int)<=((a).length:Int) then (done (.inl ((a.take (((c:Nat):Int)).toNat),(c+(Utf8.decode ⟨b.toArray⟩ c).2)))) else none) else (rec (c+(Utf8.decode ⟨b.toArray⟩ c).2)))) else (done (.inr c)))
def z95.l0 (a b:J1) (x:Nat):Option (((J1×Nat)⊕(Nat))):=lfp (λrec x=>z95.l0P a b rec some x) x
def z95.l0aP (a b:J1) {R:Type} (rec:Nat->Option R) (done:((J1×Nat)⊕(Nat))->Option R):Nat->Option R:=λc=>(if c<b.length then ((z90.F ((Utf8.decode ⟨b.toArray⟩ c).1:Int)).bind λd=>(bif (!d) then (if 0<=((c:Nat):Int)/\((c:Nat):Int)<=((a).length:Int) then (done (.inl ((a.take (((c:Nat):Int)).toNat),(c+(Utf8.decode ⟨b.toArray⟩ c).2)))) else none) else (rec (c+(Utf8.decode ⟨b.toArray⟩ c).2)))) else (done (.inr c)))
def z95.l0a (a b:J1) (x:Nat):Option (((J1×Nat)⊕(Nat))):=lfp (λrec x=>z95.l0aP a b rec some x) x
def z95.j6 (j6:Bool) (a0:J1):Option (Int×J1×Int×Int):=
 (bif j6 then ((z95.l0a a0 a0 0).bind λo7=>match o7 with | .inl p8=>((z91.F p8.1).bind λr10=>(bif r10 then (some ((2:Int),p8.1,(0:Int),(0:Int))) else ((z50.F p8.1).bind λr11=>(bif (!decide (r11.2.2.2=0)) then (some ((0:Int),([]:J1),(0:Int),(5:Int))) else (some ((1:Int),p8.1,(0:Int),(0:Int))))))) | .inr q9=>((z91.F a0).bind λr12=>(bif r12 then (some ((2:Int),a0,(0:Int),(0:Int))) else ((z50.F a0).bind λr13=>(bif (!decide (r13.2.2.2=0)) then (some ((0:Int),([]:J1),(0:Int),(5:Int))) else (some ((1:Int),a0,(0:Int),(0:Int)))))))) else ((z94.F ([123,125,61,59,44]:J1) (wr .i32 ((a0.getD 0 0).toNat:Int))).bind λr14=>(bif r14 then (if (0:Int)<=(1:Int)/\(1:Int)<=((a0).length:Int) then (some ((3:Int),(a0.take 1),(0:Int),(0:Int))) else none) else (some ((0:Int),([]:J1),(0:Int),(4:Int))))))
def z95.F (a0:J1):Option (Int×J1×Int×Int):=
 (if (0:Int)<=(0:Int)/\(0:Int)<(a0.length:Int) then ((z87.F (wr .i32 ((a0.getD 0 0).toNat:Int))).bind λr1=>(bif r1 then ((z95.l0 a0 a0 0).bind λo2=>match o2 with | .inl p3=>(some ((0:Int),p3.1,(0:Int),(0:Int))) | .inr q4=>(some ((0:Int),a0,(0:Int),(0:Int)))) else ((z88.F (wr .i32 ((a0.getD 0 0).toNat:Int))).bind λr5=>(bif r5 then (z95.j6 true a0) else (z95.j6 (decide ((wr .i32 ((a0.getD 0 0).toNat:Int))=45)) a0))))) else none)
def z95.enc (r:Int×J1×Int×Int):V:=(.tup [(.agg [(.int .i64 r.1),(.str r.2.1),(.int .i64 r.2.2.1)]),(.int .i64 r.2.2.2)])
def z95.pack:List V->Option Pack
 |[(.str a0)]=>some ⟨Int×J1×Int×Int,z95.F a0,z95.enc⟩
 |_=>none
def z96.l0P (a:J1) {R:Type} (rec:(Int×J2)->Option R) (done:((Int×J2)⊕(J2×Int×Int×J2))->Option R):(Int×J2)->Option R:=λx=>match x with
 |(b,c)=>(bif (decide (b<(a.length:Int))) then (if 0<=b/\b<=((a).length:Int) then ((z95.F (a.drop (b).toNat)).bind λd=>(bif (!decide (d.2.2.2=0)) then (done (.inr ([],b,d.2.2.2,c))) else (if ((c).length+(([[(.int .i64 d.1),(.str d.2.1),(.int .i64 b)]]:J2)).length)*32<=140737488355328 then (if 0<=(wr .i64 (b+(d.2.1.length:Int)))/\(wr .i64 (b+(d.2.1.length:Int)))<=((a).length:Int) then ((z86.F (a.drop ((wr .i64 (b+(d.2.1.length:Int)))).toNat)).bind λe=>(rec ((wr .i64 ((wr .i64 (b+(d.2.1.length:Int)))+e)),(c++([[(.int .i64 d.1),(.str d.2.1),(.int .i64 b)]]:J2))))) else none) else none))) else none) else (done (.inl (b,c))))
def z96.l0 (a:J1) (x:(Int×J2)):Option (((Int×J2)⊕(J2×Int×Int×J2))):=lfp (λrec x=>z96.l0P a rec some x) x
def z96.F (a0:J1):Option (J2×Int×Int):=
 (bif (decide ((a0.length:Int)>1048576)) then (some ([],(0:Int),(7:Int))) else ((z86.F a0).bind λr1=>((z96.l0 a0 (r1,[])).bind λo2=>match o2 with | .inl p3=>(some (p3.2,(0:Int),(0:Int))) | .inr q4=>(some (q4.1,q4.2.1,q4.2.2.1)))))
def z96.enc (r:J2×Int×Int):V:=(.tup [(.recs false 3 r.1),(.int .i64 r.2.1),(.int .i64 r.2.2)])
def z96.pack:List V->Option Pack
 |[(.str a0)]=>some ⟨J2×Int×Int,z96.F a0,z96.enc⟩
 |_=>none
def z97.l0P {R:Type} (rec:(J2×Int×Int×J2×Int×Int×Int)->Option R) (done:((J2×Int×Int×J2×Int×Int×Int)⊕(J2×Int×Int×J2×Int×Int×J2×Int×Int×Int))->Option R):(J2×Int×Int×J2×Int×Int×Int)->Option R:=λx=>match x with
 |(a,b,c,d,e,g,h)=>(bif (decide ((((a).length:Nat):Int)>0)) then (bif (decide ((((d).length:Nat):Int)=10000)) then (if (0:Int)<=(0:Int)/\(0:Int)<(a.length:Int) then (V.asInt .i64 (((a.getD 0 [])).getD 0 .undef) λj=>(V.asStr (((a.getD 0 [])).getD 1 .undef) λk=>(V.asInt .i64 (((a.getD 0 [])).getD 2 .undef) λm=>(bif (decide (j=0)) then (if (0:Int)<=(0:Int)/\(0:Int)<(a.length:Int) then (V.asInt .i64 (((a.getD 0 [])).getD 0 .undef) λn=>(V.asStr (((a.getD 0 [])).getD 1 .undef) λo=>(V.asInt .i64 (((a.getD 0 [])).getD 2 .undef) λp=>(done (.inr ([],p,(6:Int),a,b,c,d,e,g,h)))))) else none) else ((z83.F a b c e g h).bind λq=>(bif (!decide (q.2.2.2.2.2.1=0)) then (done (.inr ([],q.2.2.2.2.2.2.2.2,q.2.2.2.2.2.1,q.2.2.2.2.2.2.1,q.2.2.2.2.2.2.2.1,q.2.2.2.2.2.2.2.2,d,e,g,h))) else (if ((d).length+(([[(.int .i64 q.1),(.int .i64 q.2.1),(.int .i64 q.2.2.1),(.int .i64 q.2.2.2.1),(.str q.2.2.2.2.1)]]:J2)).length)*48<=140737488355328 then (rec (q.2.2.2.2.2.2.1,q.2.2.2.2.2.2.2.1,q.2.2.2.2.2.2.2.2,(d++([[(.int .i64 q.1),(.int .i64 q.2.1),(.int .i64 q.2.2.1),(.int .i64 q.2.2.2.1),(.str q.2.2.2.2.1)]]:J2)),q.2.1,q.2.2.1,q.2.2.2.1)) else none))))))) else none) else ((z83.F a b c e g h).bind λr=>(bif (!decide (r.2.2.2.2.2.1=0)) then (done (.inr ([],r.2.2.2.2.2.2.2.2,r.2.2.2.2.2.1,r.2.2.2.2.2.2.1,r.2.2.2.2.2.2.2.1,r.2.2.2.2.2.2.2.2,d,e,g,h))) else (if ((d).length+(([[(.int .i64 r.1),(.int .i64 r.2.1),(.int .i64 r.2.2.1),(.int .i64 r.2.2.2.1),(.str r.2.2.2.2.1)]]:J2)).length)*48<=140737488355328 then (rec (r.2.2.2.2.2.2.1,r.2.2.2.2.2.2.2.1,r.2.2.2.2.2.2.2.2,(d++([[(.int .i64 r.1),(.int .i64 r.2.1),(.int .i64 r.2.2.1),(.int .i64 r.2.2.2.1),(.str r.2.2.2.2.1)]]:J2)),r.2.1,r.2.2.1,r.2.2.2.1)) else none)))) else (done (.inl (a,b,c,d,e,g,h))))
def z97.l0 (x:(J2×Int×Int×J2×Int×Int×Int)):Option (((J2×Int×Int×J2×Int×Int×Int)⊕(J2×Int×Int×J2×Int×Int×J2×Int×Int×Int))):=lfp (λrec x=>z97.l0P rec some x) x
def z97.F (a0:J1):Option (J2×Int×Int):=
 ((z96.F a0).bind λr1=>(bif (!decide (r1.2.2=0)) then (some ([],r1.2.1,r1.2.2)) else ((z97.l0 (r1.1,(a0.length:Int),(0:Int),[],(0:Int),(0:Int),(0:Int))).bind λo2=>match o2 with | .inl p3=>(some (p3.2.2.2.1,(0:Int),(0:Int))) | .inr q4=>(some (q4.1,q4.2.1,q4.2.2.1)))))
def z97.enc (r:J2×Int×Int):V:=(.tup [(.recs false 5 r.1),(.int .i64 r.2.1),(.int .i64 r.2.2)])
def z97.pack:List V->Option Pack
 |[(.str a0)]=>some ⟨J2×Int×Int,z97.F a0,z97.enc⟩
 |_=>none
def z98.j1 (j1:Bool) (a1 a2 a3 a5 a6 a7 a0:Int) (a4:J1):Option (Int):=
 (bif j1 then (some 2) else ((z80.F a1 a2 a3).bind λr2=>(bif (!decide (r2=0)) then (some 11) else ((z74.F a1 a2 a3 a5 a6 a7).bind λr3=>(bif (decide (r3<0)) then (some 12) else ((z70.F a0 a1 a2 a3 a4).bind λr4=>(some r4)))))))
def z98.F (a0 a1 a2 a3:Int) (a4:J1) (a5 a6 a7:Int):Option (Int):=
 (bif (decide (a0<0)) then (z98.j1 true a1 a2 a3 a5 a6 a7 a0 a4) else (z98.j1 (decide (a0>=4)) a1 a2 a3 a5 a6 a7 a0 a4))
def z98.pack:List V->Option Pack
 |[(.agg [(.int .i64 a0),(.int .i64 a1),(.int .i64 a2),(.int .i64 a3),(.str a4)]),(.agg [(.int .i64 a5),(.int .i64 a6),(.int .i64 a7)])]=>some ⟨Int,z98.F a0 a1 a2 a3 a4 a5 a6 a7,z10.enc⟩
 |_=>none
def z99.l0P (a:J2) (b:Int) {R:Type} (rec:(Int×Int×Int×Int)->Option R) (done:((Int×Int×Int×Int)⊕(Int×Int×Int×Int×Int))->Option R):(Int×Int×Int×Int)->Option R:=λx=>match x with
 |(c,d,e,g)=>(bif (decide (c<b)) then (if 0<=c/\c<(a.length:Int) then (V.asInt .i64 (((a.getD (c).toNat [])).getD 0 .undef) λh=>(V.asInt .i64 (((a.getD (c).toNat [])).getD 1 .undef) λj=>(V.asInt .i64 (((a.getD (c).toNat [])).getD 2 .undef) λk=>(V.asInt .i64 (((a.getD (c).toNat [])).getD 3 .undef) λm=>(V.asStr (((a.getD (c).toNat [])).getD 4 .undef) λn=>((z98.F h j k m n d e g).bind λo=>(bif (!decide (o=0)) then (done (.inr (c,o,d,e,g))) else (rec ((wr .i64 (c+1)),j,k,m))))))))) else none) else (done (.inl (c,d,e,g))))
def z99.l0 (a:J2) (b:Int) (x:(Int×Int×Int×Int)):Option (((Int×Int×Int×Int)⊕(Int×Int×Int×Int×Int))):=lfp (λrec x=>z99.l0P a b rec some x) x
def z99.F (a0:J2):Option (Int×Int):=
 (bif (decide ((((a0).length:Nat):Int)>10000)) then (some ((10000:Int),(6:Int))) else ((z99.l0 a0 (((a0).length:Nat):Int) ((0:Int),(0:Int),(0:Int),(0:Int))).bind λo1=>match o1 with | .inl p2=>(some ((0:Int),(0:Int))) | .inr q3=>(some (q3.1,q3.2.1))))
def z99.enc (r:Int×Int):V:=(.tup [(.int .i64 r.1),(.int .i64 r.2)])
def z99.pack:List V->Option Pack
 |[(.recs _ 5 a0)]=>some ⟨Int×Int,z99.F a0,z99.enc⟩
 |_=>none
def z100.l0P (a b:Nat) {R:Type} (rec done:(Int×Int×J0)->Option R):(Int×Int×J0)->Option R:=λx=>match x with
 |(c,d,e)=>(bif (decide (d>=0)) then (if 0<=d/\d<((b:Nat):Int) then (if (a+(d).toNat)<e.length then (rec ((wr .i64 (Int.tdiv c 10)),(wr .i64 (d-1)),(e.set (a+(d).toNat) (wr .u8 (wr .i64 ((48:Int)+(Int.tmod c 10))))))) else none) else none) else (done (c,d,e)))
def z100.l0 (a b:Nat) (x:(Int×Int×J0)):Option ((Int×Int×J0)):=lfp (λrec x=>z100.l0P a b rec some x) x
def z100.F (a0 a1 a2:Int):Option (J1×Int):=
 ((z80.F a0 a1 a2).bind λr1=>(bif (!decide (r1=0)) then (some (([]:J1),r1)) else (if (0:Int)<=(4:Int)/\(4:Int)<=(([(48:Int),(48:Int),(48:Int),(48:Int),(45:Int),(48:Int),(48:Int),(45:Int),(48:Int),(48:Int)]).length:Int) then ((z100.l0 0 4 (a0,(3:Int),[(48:Int),(48:Int),(48:Int),(48:Int),(45:Int),(48:Int),(48:Int),(45:Int),(48:Int),(48:Int)])).bind λo2=>(if (0:Int)<=(5:Int)/\(5:Int)<=(7:Int)/\(7:Int)<=((o2.2.2).length:Int) then ((z100.l0 5 (7-5) (a1,(wr .i64 ((((7-5):Nat):Int)-1)),o2.2.2)).bind λo3=>(if (0:Int)<=(8:Int)/\(8:Int)<=((o3.2.2).length:Int) then ((z100.l0 8 ((o3.2.2).length-8) (a2,(wr .i64 (((((o3.2.2).length-8):Nat):Int)-1)),o3.2.2)).bind λo4=>(some ((o4.2.2.map λn=>UInt8.ofNat n.toNat),(0:Int)))) else none)) else none)) else none)))
def z100.enc (r:J1×Int):V:=(.tup [(.str r.1),(.int .i64 r.2)])
def z100.pack:List V->Option Pack
 |[(.agg [(.int .i64 a0),(.int .i64 a1),(.int .i64 a2)])]=>some ⟨J1×Int,z100.F a0 a1 a2,z100.enc⟩
 |_=>none
def z101.j4 (r2:J1×Bool) (j4:J1):Option (J1):=
 (bif r2.2 then (if ([45]:J1).length+j4.length<=9223372036854775807 then (some (([45]:J1)++j4)) else none) else (some j4))
def z101.F (a0:J0) (a1:Bool) (a2:Int):Option (J1):=
 ((z28.F a0 a1).bind λr1=>((z33.F r1 ([45]:J1)).bind λr2=>((z5.F ([48]:J1) (if (wr .i64 ((wr .i64 (a2+1))-(r2.1.length:Int)))>0 then (wr .i64 ((wr .i64 (a2+1))-(r2.1.length:Int))) else 0)).bind λr3=>(if r3.length+r2.1.length<=9223372036854775807 then (bif (decide (a2>0)) then (if 0<=(wr .i64 (((r3++r2.1).length:Int)-a2))/\(wr .i64 (((r3++r2.1).length:Int)-a2))<=(((r3++r2.1)).length:Int) then (if ((r3++r2.1).take ((wr .i64 (((r3++r2.1).length:Int)-a2))).toNat).length+([46]:J1).length<=9223372036854775807 then (if 0<=(wr .i64 (((r3++r2.1).length:Int)-a2))/\(wr .i64 (((r3++r2.1).length:Int)-a2))<=(((r3++r2.1)).length:Int) then (if (((r3++r2.1).take ((wr .i64 (((r3++r2.1).length:Int)-a2))).toNat)++([46]:J1)).length+((r3++r2.1).drop ((wr .i64 (((r3++r2.1).length:Int)-a2))).toNat).length<=9223372036854775807 then (z101.j4 r2 ((((r3++r2.1).take ((wr .i64 (((r3++r2.1).length:Int)-a2))).toNat)++([46]:J1))++((r3++r2.1).drop ((wr .i64 (((r3++r2.1).length:Int)-a2))).toNat))) else none) else none) else none) else none) else (z101.j4 r2 (r3++r2.1))) else none))))
def z101.pack:List V->Option Pack
 |[(.agg [(.ints _ .u64 a0),(.bool a1),(.int .i64 a2)])]=>some ⟨J1,z101.F a0 a1 a2,z26.enc⟩
 |_=>none
def z102.F (a0:J0) (a1:Bool):Option (J1):=
 ((z52.F a0 a1 2).bind λr1=>((z101.F r1.1 r1.2.1 r1.2.2.1).bind λr2=>(some r2)))
def z102.pack:List V->Option Pack
 |[(.agg [(.ints _ .u64 a0),(.bool a1)])]=>some ⟨J1,z102.F a0 a1,z26.enc⟩
 |_=>none
def z103.j3 (j3:Bool) (r2:(List J1)) (a0:Int) (r1:J1×Int) (a4:J1):Option (J1):=
 (bif j3 then (if (([(r2.getD (a0).toNat []),r1.1]).length+([a4]).length)*16<=140737488355328 then ((z6.F ([(r2.getD (a0).toNat []),r1.1]++[a4]) ([32]:J1)).bind λr7=>(if r7.length+([59,10]:J1).length<=9223372036854775807 then (some (r7++([59,10]:J1))) else none)) else none) else ((z38.F a4).bind λr4=>((z102.F r4.1 r4.2.1).bind λr5=>(if (([(r2.getD (a0).toNat []),r1.1]).length+([r5]).length)*16<=140737488355328 then ((z6.F ([(r2.getD (a0).toNat []),r1.1]++[r5]) ([32]:J1)).bind λr8=>(if r8.length+([59,10]:J1).length<=9223372036854775807 then (some (r8++([59,10]:J1))) else none)) else none))))
def z103.F (a0 a1 a2 a3:Int) (a4:J1):Option (J1):=
 ((z100.F a1 a2 a3).bind λr1=>(z76.F.bind λr2=>(if 0<=a0/\a0<(r2.length:Int) then (bif (decide (a0=3)) then ((z6.F [(r2.getD (a0).toNat []),r1.1] ([32]:J1)).bind λr6=>(if r6.length+([59,10]:J1).length<=9223372036854775807 then (some (r6++([59,10]:J1))) else none)) else (bif (decide (a0=2)) then (z103.j3 true r2 a0 r1 a4) else (z103.j3 (decide (a4=([100,117,101]:J1))) r2 a0 r1 a4))) else none)))
def z103.pack:List V->Option Pack
 |[(.agg [(.int .i64 a0),(.int .i64 a1),(.int .i64 a2),(.int .i64 a3),(.str a4)])]=>some ⟨J1,z103.F a0 a1 a2 a3 a4,z26.enc⟩
 |_=>none
def z104.l0P (a:J2) (b:Int) {R:Type} (rec done:(Int×J0)->Option R):(Int×J0)->Option R:=λx=>match x with
 |(d,e)=>(bif (decide (d<b)) then (if 0<=d/\d<(a.length:Int) then (V.asInt .i64 (((a.getD (d).toNat [])).getD 0 .undef) λg=>(V.asInt .i64 (((a.getD (d).toNat [])).getD 1 .undef) λh=>(V.asInt .i64 (((a.getD (d).toNat [])).getD 2 .undef) λj=>(V.asInt .i64 (((a.getD (d).toNat [])).getD 3 .undef) λk=>(V.asStr (((a.getD (d).toNat [])).getD 4 .undef) λm=>((z103.F g h j k m).bind λn=>(if ((e).length+((n.map λc=>(c.toNat:Int))).length)*1<=140737488355328 then (rec ((wr .i64 (d+1)),(e++(n.map λc=>(c.toNat:Int))))) else none))))))) else none) else (done (d,e)))
def z104.l0 (a:J2) (b:Int) (x:(Int×J0)):Option ((Int×J0)):=lfp (λrec x=>z104.l0P a b rec some x) x
def z104.F (a0:J2):Option (J1×Int):=
 ((z99.F a0).bind λr1=>(bif (!decide (r1.2=0)) then (some (([]:J1),r1.2)) else (bif (decide ((0:Int)<(((a0).length:Nat):Int))) then (if (0:Int)<=(0:Int)/\(0:Int)<(a0.length:Int) then (V.asInt .i64 (((a0.getD 0 [])).getD 0 .undef) λc2=>(V.asInt .i64 (((a0.getD 0 [])).getD 1 .undef) λc3=>(V.asInt .i64 (((a0.getD 0 [])).getD 2 .undef) λc4=>(V.asInt .i64 (((a0.getD 0 [])).getD 3 .undef) λc5=>(V.asStr (((a0.getD 0 [])).getD 4 .undef) λc6=>((z103.F c2 c3 c4 c5 c6).bind λr7=>(if (([]:J0).length+((r7.map λc=>(c.toNat:Int))).length)*1<=140737488355328 then ((z104.l0 a0 (((a0).length:Nat):Int) ((1:Int),([]++(r7.map λc=>(c.toNat:Int))))).bind λo8=>(if 0<(o8.2).length then (if (((o8.2).length:Nat):Int)=(o8.2.length:Int)/\0<o8.2.length/\o8.2.all Yw=true then (some ((o8.2.map λn=>UInt8.ofNat n.toNat),(0:Int))) else none) else none)) else none))))))) else none) else (if ((([]:J0).length:Nat):Int)=0 then (some (([]:J1),(0:Int))) else none))))
def z104.pack:List V->Option Pack
 |[(.recs _ 5 a0)]=>some ⟨J1×Int,z104.F a0,z100.enc⟩
 |_=>none
def z105.F:Option (Bool):=
 ((z97.F ([112,97,121,32,50,48,50,52,45,48,50,45,48,49,32,100,117,101,59,32,114,101,115,101,116,32,50,48,50,52,45,48,51,45,49,53,32,53,46,53,59]:J1)).bind λr1=>((z104.F r1.1).bind λr2=>((z97.F ([112,97,115,115,32,50,48,50,52,45,48,50,45,48,49,59,32,112,97,115,115,32,50,48,50,52,45,48,49,45,48,49,59]:J1)).bind λr3=>(bif (decide (r1.2.2=0)) then (bif (decide (r1.2.1=0)) then (bif (decide ((((r1.1).length:Nat):Int)=2)) then (if (0:Int)<=(0:Int)/\(0:Int)<(r1.1.length:Int) then (V.asInt .i64 (((r1.1.getD 0 [])).getD 0 .undef) λc4=>(V.asInt .i64 (((r1.1.getD 0 [])).getD 1 .undef) λc5=>(V.asInt .i64 (((r1.1.getD 0 [])).getD 2 .undef) λc6=>(V.asInt .i64 (((r1.1.getD 0 [])).getD 3 .undef) λc7=>(V.asStr (((r1.1.getD 0 [])).getD 4 .undef) λc8=>(bif (decide (c8=([100,117,101]:J1))) then (if (0:Int)<=(1:Int)/\(1:Int)<(r1.1.length:Int) then (V.asInt .i64 (((r1.1.getD 1 [])).getD 0 .undef) λc9=>(V.asInt .i64 (((r1.1.getD 1 [])).getD 1 .undef) λc10=>(V.asInt .i64 (((r1.1.getD 1 [])).getD 2 .undef) λc11=>(V.asInt .i64 (((r1.1.getD 1 [])).getD 3 .undef) λc12=>(V.asStr (((r1.1.getD 1 [])).getD 4 .undef) λc13=>(bif (decide (c9=2)) then (bif (decide (r2.1=([112,97,121,32,50,48,50,52,45,48,50,45,48,49,32,100,117,101,59,10,114,101,115,101,116,32,50,48,50,52,45,48,51,45,49,53,32,53,46,53,59,10]:J1))) then (bif (decide (r2.2=0)) then (bif (decide (r3.2.1=22)) then (some (decide (r3.2.2=12))) else (some false)) else (some false)) else (some false)) else (some false))))))) else none) else (some false))))))) else none) else (some false)) else (some false)) else (some false)))))
def z105.pack:List V->Option Pack
 |[]=>some ⟨Bool,z105.F,z8.enc⟩
 |_=>none
def z106.l0P (a b:J2) (c:Int) {R:Type} (rec:Int->Option R) (done:((Int)⊕(Bool))->Option R):Int->Option R:=λd=>(bif (decide (d<c)) then (if 0<=d/\d<(a.length:Int) then (V.asInt .i64 (((a.getD (d).toNat [])).getD 0 .undef) λe=>(V.asInt .i64 (((a.getD (d).toNat [])).getD 1 .undef) λg=>(V.asInt .i64 (((a.getD (d).toNat [])).getD 2 .undef) λh=>(V.asInt .i64 (((a.getD (d).toNat [])).getD 3 .undef) λj=>(V.asStr (((a.getD (d).toNat [])).getD 4 .undef) λk=>(if 0<=d/\d<(b.length:Int) then (V.asInt .i64 (((b.getD (d).toNat [])).getD 0 .undef) λm=>(V.asInt .i64 (((b.getD (d).toNat [])).getD 1 .undef) λn=>(V.asInt .i64 (((b.getD (d).toNat [])).getD 2 .undef) λo=>(V.asInt .i64 (((b.getD (d).toNat [])).getD 3 .undef) λp=>(V.asStr (((b.getD (d).toNat [])).getD 4 .undef) λq=>(bif (!(decide (e=m)&&((decide (g=n)&&(decide (h=o)&&decide (j=p)))&&decide (k=q)))) then (done (.inr false)) else (rec (wr .i64 (d+1))))))))) else none)))))) else none) else (done (.inl d)))
def z106.l0 (a b:J2) (c x:Int):Option (((Int)⊕(Bool))):=lfp (λrec x=>z106.l0P a b c rec some x) x
def z106.F (a0 a1:J2):Option (Bool):=
 (bif (!decide ((((a0).length:Nat):Int)=(((a1).length:Nat):Int))) then (some false) else ((z106.l0 a0 a1 (((a0).length:Nat):Int) 0).bind λo1=>match o1 with | .inl p2=>(some true) | .inr q3=>(some q3)))
def z106.pack:List V->Option Pack
 |[(.recs _ 5 a0),(.recs _ 5 a1)]=>some ⟨Bool,z106.F a0 a1,z8.enc⟩
 |_=>none
def z107.l2P {R:Type} (rec done:(J1×Int×Int)->Option R):(J1×Int×Int)->Option R:=λx=>match x with
 |(a,b,c)=>(bif (decide (c<4)) then (if ([(wr .u8 (wr .i64 ((48:Int)+(Int.tmod b 10))))].map λn=>UInt8.ofNat n.toNat).length+a.length<=9223372036854775807 then (rec ((([(wr .u8 (wr .i64 ((48:Int)+(Int.tmod b 10))))].map λn=>UInt8.ofNat n.toNat)++a),(wr .i64 (Int.tdiv b 10)),(wr .i64 (c+1)))) else none) else (done (a,b,c)))
def z107.l2 (x:(J1×Int×Int)):Option ((J1×Int×Int)):=lfp (λrec x=>z107.l2P rec some x) x
def z107.l0P (a:J0) {R:Type} (rec done:(J1×Int)->Option R):(J1×Int)->Option R:=λx=>match x with
 |(b,c)=>(bif (decide (c<(((a).length:Nat):Int))) then (if 0<=c/\c<(a.length:Int) then ((z107.l2 (b,(a.getD (c).toNat 0),(0:Int))).bind λd=>(rec (d.1,(wr .i64 (c+1))))) else none) else (done (b,c)))
def z107.l0 (a:J0) (x:(J1×Int)):Option ((J1×Int)):=lfp (λrec x=>z107.l0P a rec some x) x
def z107.l4P (a:J1) {R:Type} (rec:Int->Option R) (done:(Int)->Option R):Int->Option R:=λb=>(if 0<=b/\b<(a.length:Int) then (bif (decide (((a.getD (b).toNat 0).toNat:Int)=48)) then (rec (wr .i64 (b+1))) else (done b)) else none)
def z107.l4 (a:J1) (x:Int):Option ((Int)):=lfp (λrec x=>z107.l4P a rec some x) x
def z107.F (a0:J0):Option (J1):=
 (bif (decide ((((a0).length:Nat):Int)=0)) then (some ([48]:J1)) else ((z107.l0 a0 (([]:J1),(0:Int))).bind λo1=>((z107.l4 o1.1 0).bind λo2=>(if 0<=o2/\o2<=((o1.1).length:Int) then (some (o1.1.drop (o2).toNat)) else none))))
def z107.pack:List V->Option Pack
 |[(.ints _ .i64 a0)]=>some ⟨J1,z107.F a0,z26.enc⟩
 |_=>none
def z108.F (a0:J0) (a1:Bool):Option (J1):=
 ((z107.F a0).bind λr1=>(bif a1 then (if ([45]:J1).length+r1.length<=9223372036854775807 then (some (([45]:J1)++r1)) else none) else (some r1)))
def z108.pack:List V->Option Pack
 |[(.agg [(.ints _ .i64 a0),(.bool a1)])]=>some ⟨J1,z108.F a0 a1,z26.enc⟩
 |_=>none
def z109.j1 (a0:Int):Option (Bool):=
 (bif (decide ((Int.tmod a0 400)=0)) then (some true) else (bif (decide ((Int.tmod a0 4)=0)) then (some (!decide ((Int.tmod a0 100)=0))) else (some false)))
def z109.F (a0:Int):Option (Bool):=
 (bif (decide (a0<1)) then (some false) else (bif (decide (a0>9999)) then (some false) else (z109.j1 a0)))
def z109.pack:List V->Option Pack
 |[(.int .i64 a0)]=>some ⟨Bool,z109.F a0,z8.enc⟩
 |_=>none
def z110.j1 (a1 a0:Int):Option (Int):=
 (bif (decide (a1=2)) then ((z109.F a0).bind λr2=>(bif r2 then (some 29) else (some 28))) else (bif (decide (a1=4)) then (some 30) else (bif (decide (a1=6)) then (some 30) else (bif (decide (a1=9)) then (some 30) else (bif (decide (a1=11)) then (some 30) else (some 31))))))
def z110.F (a0 a1:Int):Option (Int):=
 (bif (decide (a0<1)) then (some 0) else (bif (decide (a0>9999)) then (some 0) else (bif (decide (a1<1)) then (some 0) else (bif (decide (a1>12)) then (some 0) else (z110.j1 a1 a0)))))
def z110.pack:List V->Option Pack
 |[(.int .i64 a0),(.int .i64 a1)]=>some ⟨Int,z110.F a0 a1,z10.enc⟩
 |_=>none
def z111.F (a0 a1 a2:Int):Option (Int×Int×Int×Bool):=
 ((z110.F a0 a1).bind λr1=>(bif (decide (a2<r1)) then (some (a0,a1,(wr .i64 (a2+1)),true)) else (bif (decide (a1<12)) then (some (a0,(wr .i64 (a1+1)),(1:Int),true)) else (some ((wr .i64 (a0+1)),(1:Int),(1:Int),(decide (a0<9999)))))))
def z111.enc (r:Int×Int×Int×Bool):V:=(.tup [(.agg [(.int .i64 r.1),(.int .i64 r.2.1),(.int .i64 r.2.2.1)]),(.bool r.2.2.2)])
def z111.pack:List V->Option Pack
 |[(.agg [(.int .i64 a0),(.int .i64 a1),(.int .i64 a2)])]=>some ⟨Int×Int×Int×Bool,z111.F a0 a1 a2,z111.enc⟩
 |_=>none
def z112.F (a0:J0) (a1:Bool):Option (J0×Bool):=
 (bif a1 then (some (a0,(decide ((((a0).length:Nat):Int)>0)))) else (some (a0,false)))
def z112.enc (r:J0×Bool):V:=(.agg [(.ints false .i64 r.1),(.bool r.2)])
def z112.pack:List V->Option Pack
 |[(.ints _ .i64 a0),(.bool a1)]=>some ⟨J0×Bool,z112.F a0 a1,z112.enc⟩
 |_=>none
def z113.l0P {R:Type} (rec done:(Int×J0)->Option R):(Int×J0)->Option R:=λx=>match x with
 |(a,b)=>(bif (decide (a>0)) then (if ((b).length+([(Int.tmod a 10000)]).length)*8<=140737488355328 then (rec ((wr .i64 (Int.tdiv a 10000)),(b++[(Int.tmod a 10000)]))) else none) else (done (a,b)))
def z113.l0 (x:(Int×J0)):Option ((Int×J0)):=lfp (λrec x=>z113.l0P rec some x) x
def z113.F (a0:Int):Option (J0):=
 ((z113.l0 (a0,[])).bind λo1=>(some o1.2))
def z113.enc (r:J0):V:=(.ints false .i64 r)
def z113.pack:List V->Option Pack
 |[(.int .i64 a0)]=>some ⟨J0,z113.F a0,z113.enc⟩
 |_=>none
def z114.F (a0:Int):Option (J0×Bool):=
 (bif (decide (a0<0)) then ((z113.F (wr .i64 (0-a0))).bind λr1=>((z112.F r1 true).bind λr2=>(some (r2.1,r2.2)))) else ((z113.F a0).bind λr3=>((z112.F r3 false).bind λr4=>(some (r4.1,r4.2)))))
def z114.pack:List V->Option Pack
 |[(.int .i64 a0)]=>some ⟨J0×Bool,z114.F a0,z112.enc⟩
 |_=>none
def z115.l2P (a:Int) (b:J0) {R:Type} (rec done:(Int×Int×Int×Int)->Option R):(Int×Int×Int×Int)->Option R:=λx=>match x with
 |(c,d,e,g)=>(if 0<=a/\a<(b.length:Int) then (bif (decide (c<(Int.tmod (wr .i64 (b.getD (a).toNat 0)) 71))) then ((z111.F d e g).bind λh=>(bif h.2.2.2 then (rec ((wr .i64 (c+1)),h.1,h.2.1,h.2.2.1)) else (rec ((wr .i64 (c+1)),d,e,g)))) else (done (c,d,e,g))) else none)
def z115.l2 (a:Int) (b:J0) (x:(Int×Int×Int×Int)):Option ((Int×Int×Int×Int)):=lfp (λrec x=>z115.l2P a b rec some x) x
def z115.j1022a {R:Type} (rec done:(Int×J2×Int×Int×Int)->Option R) (a:J2) (b:Int) (c:Int×Int×Int×Int) (d:J1) (e:Int):Option R:=
 (if ((a).length+(([[(.int .i64 (Int.tmod b 4)),(.int .i64 c.2.1),(.int .i64 c.2.2.1),(.int .i64 c.2.2.2),(.str d)]]:J2)).length)*48<=140737488355328 then (rec ((wr .i64 (e+1)),(a++([[(.int .i64 (Int.tmod b 4)),(.int .i64 c.2.1),(.int .i64 c.2.2.1),(.int .i64 c.2.2.2),(.str d)]]:J2)),c.2.1,c.2.2.1,c.2.2.2)) else none)
def z115.j1021a {R:Type} (rec done:(Int×J2×Int×Int×Int)->Option R) (a:Int) (b:J2) (c:Int×Int×Int×Int) (d:Int) (e:J1):Option R:=
 (bif (decide ((Int.tmod a 4)=0)) then (bif (!decide ((Int.tmod (wr .i64 (Int.tdiv a 4)) 3)=0)) then (z115.j1022a rec done b a c ([100,117,101]:J1) d) else (z115.j1022a rec done b a c e d)) else (if ((b).length+(([[(.int .i64 (Int.tmod a 4)),(.int .i64 c.2.1),(.int .i64 c.2.2.1),(.int .i64 c.2.2.2),(.str e)]]:J2)).length)*48<=140737488355328 then (rec ((wr .i64 (d+1)),(b++([[(.int .i64 (Int.tmod a 4)),(.int .i64 c.2.1),(.int .i64 c.2.2.1),(.int .i64 c.2.2.2),(.str e)]]:J2)),c.2.1,c.2.2.1,c.2.2.2)) else none))
def z115.j1019a {R:Type} (rec done:(Int×J2×Int×Int×Int)->Option R) (a:Int) (b:J0) (c:Bool) (d:J2) (e:Int×Int×Int×Int) (g:Int):Option R:=
 (bif (!decide ((Int.tmod a 4)=3)) then ((z108.F b c).bind λh=>(z115.j1021a rec done a d e g h)) else (z115.j1021a rec done a d e g ([]:J1)))
def z115.j1015a {R:Type} (rec done:(Int×J2×Int×Int×Int)->Option R) (a b:Int) (c:J2) (d:Int×Int×Int×Int) (e:Int):Option R:=
 ((z114.F a).bind λg=>(bif (decide ((Int.tmod b 4)=2)) then ((z114.F (Int.tmod a 900)).bind λh=>(z115.j1019a rec done b h.1 h.2 c d e)) else (z115.j1019a rec done b g.1 g.2 c d e)))
def z115.j1014a {R:Type} (rec done:(Int×J2×Int×Int×Int)->Option R) (a:Int) (b:J0) (c:Int) (d:J2) (e:Int×Int×Int×Int):Option R:=
 (bif (decide (a<(((b).length:Nat):Int))) then (if 0<=a/\a<(b.length:Int) then (z115.j1015a rec done (wr .i64 ((1:Int)+(wr .i64 (b.getD (a).toNat 0)))) c d e a) else none) else (z115.j1015a rec done (wr .i64 ((100:Int)*(wr .i64 (a+1)))) c d e a))
def z115.l0P (a b c:J0) {R:Type} (rec done:(Int×J2×Int×Int×Int)->Option R):(Int×J2×Int×Int×Int)->Option R:=λx=>match x with
 |(d,e,g,h,j)=>(bif (decide (d<(((a).length:Nat):Int))) then (bif (decide (d<16)) then ((z115.l2 d a ((0:Int),g,h,j)).bind λk=>(bif (decide (d<(((b).length:Nat):Int))) then (if 0<=d/\d<(b.length:Int) then (z115.j1014a rec done d c (wr .i64 (b.getD (d).toNat 0)) e k) else none) else (z115.j1014a rec done d c d e k))) else (done (d,e,g,h,j))) else (done (d,e,g,h,j)))
def z115.l0 (a b c:J0) (x:(Int×J2×Int×Int×Int)):Option ((Int×J2×Int×Int×Int)):=lfp (λrec x=>z115.l0P a b c rec some x) x
def z115.F (a0 a1 a2:Int) (a3 a4 a5:J0) (a6 a7 a8:Int):Option (J2):=
 ((z115.l0 a3 a4 a5 ((0:Int),[],a6,a7,a8)).bind λo1=>(some o1.2.1))
def z115.enc (r:J2):V:=(.recs false 5 r)
def z115.pack:List V->Option Pack
 |[(.agg [(.int .i64 a0),(.int .i64 a1),(.int .i64 a2),(.ints _ .u8 a3),(.ints _ .u8 a4),(.ints _ .u32 a5)]),(.agg [(.int .i64 a6),(.int .i64 a7),(.int .i64 a8)])]=>some ⟨J2,z115.F a0 a1 a2 a3 a4 a5 a6 a7 a8,z115.enc⟩
 |_=>none
def z116.j7 (a0 a3 j5 j7:Int):Option (Int×Int×Int):=
 (some ((wr .i64 ((wr .i64 ((Int.tmod a0 a3)+a3))+1)),(wr .i64 (j5+1)),(wr .i64 (j7+1))))
def z116.j5 (a0 a3 j5 a2:Int):Option (Int×Int×Int):=
 ((z110.F (wr .i64 ((wr .i64 ((Int.tmod a0 a3)+a3))+1)) (wr .i64 (j5+1))).bind λr6=>(if r6=0 then none else (bif (decide ((Int.tmod a2 r6)<0)) then (z116.j7 a0 a3 j5 (wr .i64 ((Int.tmod a2 r6)+r6))) else (z116.j7 a0 a3 j5 (Int.tmod a2 r6)))))
def z116.j8 (a0 a3 j8 a2:Int):Option (Int×Int×Int):=
 ((z110.F (wr .i64 ((Int.tmod a0 a3)+1)) (wr .i64 (j8+1))).bind λr9=>(if r9=0 then none else (bif (decide ((Int.tmod a2 r9)<0)) then (some ((wr .i64 ((Int.tmod a0 a3)+1)),(wr .i64 (j8+1)),(wr .i64 ((wr .i64 ((Int.tmod a2 r9)+r9))+1)))) else (some ((wr .i64 ((Int.tmod a0 a3)+1)),(wr .i64 (j8+1)),(wr .i64 ((Int.tmod a2 r9)+1)))))))
def z116.F (a0 a1 a2 a3:Int):Option (Int×Int×Int):=
 (if a3=0 then none else (bif (decide ((Int.tmod a0 a3)<0)) then (bif (decide ((Int.tmod a1 12)<0)) then (z116.j5 a0 a3 (wr .i64 ((Int.tmod a1 12)+12)) a2) else (z116.j5 a0 a3 (Int.tmod a1 12) a2)) else (bif (decide ((Int.tmod a1 12)<0)) then (z116.j8 a0 a3 (wr .i64 ((Int.tmod a1 12)+12)) a2) else (z116.j8 a0 a3 (Int.tmod a1 12) a2))))
def z116.enc (r:Int×Int×Int):V:=(.agg [(.int .i64 r.1),(.int .i64 r.2.1),(.int .i64 r.2.2)])
def z116.pack:List V->Option Pack
 |[(.agg [(.int .i64 a0),(.int .i64 a1),(.int .i64 a2)]),(.int .i64 a3)]=>some ⟨Int×Int×Int,z116.F a0 a1 a2 a3,z116.enc⟩
 |_=>none
def z117.F (a0 a1 a2:Int) (a3 a4 a5:J0):Option (Int×Int×Int):=
 ((z116.F a0 a1 a2 9990).bind λr1=>(some (r1.1,r1.2.1,r1.2.2)))
def z117.pack:List V->Option Pack
 |[(.agg [(.int .i64 a0),(.int .i64 a1),(.int .i64 a2),(.ints _ .u8 a3),(.ints _ .u8 a4),(.ints _ .u32 a5)])]=>some ⟨Int×Int×Int,z117.F a0 a1 a2 a3 a4 a5,z116.enc⟩
 |_=>none
def z118.l0P (a:Int) {R:Type} (rec done:(Int×J1×Int)->Option R):(Int×J1×Int)->Option R:=λx=>match x with
 |(b,c,d)=>(bif (decide (d<a)) then (if ([(wr .u8 (wr .i64 ((48:Int)+(Int.tmod b 10))))].map λn=>UInt8.ofNat n.toNat).length+c.length<=9223372036854775807 then (rec ((wr .i64 (Int.tdiv b 10)),(([(wr .u8 (wr .i64 ((48:Int)+(Int.tmod b 10))))].map λn=>UInt8.ofNat n.toNat)++c),(wr .i64 (d+1)))) else none) else (done (b,c,d)))
def z118.l0 (a:Int) (x:(Int×J1×Int)):Option ((Int×J1×Int)):=lfp (λrec x=>z118.l0P a rec some x) x
def z118.F (a0 a1:Int):Option (J1):=
 ((z118.l0 a1 (a0,([]:J1),(0:Int))).bind λo1=>(some o1.2.1))
def z118.pack:List V->Option Pack
 |[(.int .i64 a0),(.int .i64 a1)]=>some ⟨J1,z118.F a0 a1,z26.enc⟩
 |_=>none
def z119.F (a0 a1 a2:Int):Option (J1):=
 ((z118.F a0 4).bind λr1=>((z118.F a1 2).bind λr2=>((z118.F a2 2).bind λr3=>(if r1.length+([45]:J1).length<=9223372036854775807 then (if (r1++([45]:J1)).length+r2.length<=9223372036854775807 then (if ((r1++([45]:J1))++r2).length+([45]:J1).length<=9223372036854775807 then (if (((r1++([45]:J1))++r2)++([45]:J1)).length+r3.length<=9223372036854775807 then (some ((((r1++([45]:J1))++r2)++([45]:J1))++r3)) else none) else none) else none) else none))))
def z119.pack:List V->Option Pack
 |[(.agg [(.int .i64 a0),(.int .i64 a1),(.int .i64 a2)])]=>some ⟨J1,z119.F a0 a1 a2,z26.enc⟩
 |_=>none
def z120.l0P (a:J0) {R:Type} (rec:Int->Option R) (done:(Int)->Option R):Int->Option R:=λb=>(bif (decide (b>0)) then (if 0<=(wr .i64 (b-1))/\(wr .i64 (b-1))<(a.length:Int) then (bif (decide ((a.getD ((wr .i64 (b-1))).toNat 0)=0)) then (rec (wr .i64 (b-1))) else (done b)) else none) else (done b))
def z120.l0 (a:J0) (x:Int):Option ((Int)):=lfp (λrec x=>z120.l0P a rec some x) x
def z120.F (a0:J0):Option (J0):=
 ((z120.l0 a0 (((a0).length:Nat):Int)).bind λo1=>(if 0<=o1/\o1<=(a0.length:Int) then (some (a0.take (o1).toNat)) else none))
def z120.pack:List V->Option Pack
 |[(.ints _ .i64 a0)]=>some ⟨J0,z120.F a0,z113.enc⟩
 |_=>none
def z121.l2P (a:J1) (b:Int) {R:Type} (rec done:(Int×Int)->Option R):(Int×Int)->Option R:=λx=>match x with
 |(c,d)=>(bif (decide (d<b)) then (if 0<=d/\d<(a.length:Int) then (rec ((wr .i64 ((wr .i64 ((wr .i64 ((10:Int)*c))+(wr .i64 ((a.getD (d).toNat 0).toNat:Int))))-48)),(wr .i64 (d+1)))) else none) else (done (c,d)))
def z121.l2 (a:J1) (b:Int) (x:(Int×Int)):Option ((Int×Int)):=lfp (λrec x=>z121.l2P a b rec some x) x
def z121.l0P (a:J1) {R:Type} (rec done:(Int×J0)->Option R):(Int×J0)->Option R:=λx=>match x with
 |(b,c)=>(bif (decide (b>0)) then ((z121.l2 a b ((0:Int),(if (wr .i64 (b-4))>0 then (wr .i64 (b-4)) else 0))).bind λd=>(if ((c).length+([d.1]).length)*8<=140737488355328 then (rec ((wr .i64 (b-4)),(c++[d.1]))) else none)) else (done (b,c)))
def z121.l0 (a:J1) (x:(Int×J0)):Option ((Int×J0)):=lfp (λrec x=>z121.l0P a rec some x) x
def z121.F (a0:J1):Option (J0):=
 ((z121.l0 a0 ((a0.length:Int),[])).bind λo1=>((z120.F o1.2).bind λr2=>(some r2)))
def z121.pack:List V->Option Pack
 |[(.str a0)]=>some ⟨J0,z121.F a0,z113.enc⟩
 |_=>none
def z122.F (a0:J1):Option (J0×Bool):=
 (if (0:Int)<=(0:Int)/\(0:Int)<(a0.length:Int) then (bif (decide (((a0.getD 0 0).toNat:Int)=45)) then (if (0:Int)<=(1:Int)/\(1:Int)<=((a0).length:Int) then ((z121.F (a0.drop 1)).bind λr1=>((z112.F r1 true).bind λr2=>(some (r2.1,r2.2)))) else none) else ((z121.F a0).bind λr3=>((z112.F r3 false).bind λr4=>(some (r4.1,r4.2))))) else none)
def z122.pack:List V->Option Pack
 |[(.str a0)]=>some ⟨J0×Bool,z122.F a0,z112.enc⟩
 |_=>none
def z123.l0P (a:J1) {R:Type} (rec:Int->Option R) (done:((Int)⊕(Bool))->Option R):Int->Option R:=λb=>(bif (decide (b<(a.length:Int))) then (if 0<=b/\b<(a.length:Int) then (bif (decide (((a.getD (b).toNat 0).toNat:Int)<48)) then (done (.inr false)) else (if 0<=b/\b<(a.length:Int) then (bif (decide (((a.getD (b).toNat 0).toNat:Int)>57)) then (done (.inr false)) else (rec (wr .i64 (b+1)))) else none)) else none) else (done (.inl b)))
def z123.l0 (a:J1) (x:Int):Option (((Int)⊕(Bool))):=lfp (λrec x=>z123.l0P a rec some x) x
def z123.F (a0:J1):Option (Bool):=
 (bif (decide ((a0.length:Int)=0)) then (some false) else (bif (decide ((a0.length:Int)>1)) then (if (0:Int)<=(0:Int)/\(0:Int)<(a0.length:Int) then (bif (decide (((a0.getD 0 0).toNat:Int)=48)) then (some false) else ((z123.l0 a0 0).bind λo8=>match o8 with | .inl p9=>(some true) | .inr q10=>(some q10))) else none) else ((z123.l0 a0 0).bind λo11=>match o11 with | .inl p12=>(some true) | .inr q13=>(some q13))))
def z123.pack:List V->Option Pack
 |[(.str a0)]=>some ⟨Bool,z123.F a0,z8.enc⟩
 |_=>none
def z124.j3 (j3:J1) (r1:J0×Bool) (a0:J1):Option (J0×Bool×Int):=
 (bif (decide ((j3.length:Int)>4096)) then (some (r1.1,r1.2,(7:Int))) else ((z123.F j3).bind λr4=>(bif (!r4) then (some (r1.1,r1.2,(5:Int))) else (bif (decide (j3=([48]:J1))) then (bif (decide ((a0.length:Int)>1)) then (some (r1.1,r1.2,(5:Int))) else ((z122.F a0).bind λr8=>(some (r8.1,r8.2,(0:Int))))) else ((z122.F a0).bind λr9=>(some (r9.1,r9.2,(0:Int))))))))
def z124.F (a0:J1):Option (J0×Bool×Int):=
 ((z114.F 0).bind λr1=>(bif (decide ((a0.length:Int)>0)) then (if (0:Int)<=(0:Int)/\(0:Int)<(a0.length:Int) then (bif (decide (((a0.getD 0 0).toNat:Int)=45)) then (if (0:Int)<=(1:Int)/\(1:Int)<=((a0).length:Int) then (z124.j3 (a0.drop 1) r1 a0) else none) else (z124.j3 a0 r1 a0)) else none) else (z124.j3 a0 r1 a0)))
def z124.enc (r:J0×Bool×Int):V:=(.tup [(.agg [(.ints false .i64 r.1),(.bool r.2.1)]),(.int .i64 r.2.2)])
def z124.pack:List V->Option Pack
 |[(.str a0)]=>some ⟨J0×Bool×Int,z124.F a0,z124.enc⟩
 |_=>none
def z125.l0P (a:Int) {R:Type} (rec done:(J1×Int)->Option R):(J1×Int)->Option R:=λx=>match x with
 |(b,c)=>(bif (decide (c<a)) then (if b.length+([48]:J1).length<=9223372036854775807 then (rec ((b++([48]:J1)),(wr .i64 (c+1)))) else none) else (done (b,c)))
def z125.l0 (a:Int) (x:(J1×Int)):Option ((J1×Int)):=lfp (λrec x=>z125.l0P a rec some x) x
def z125.F (a0:Int):Option (J0):=
 ((z125.l0 a0 (([49]:J1),(0:Int))).bind λo1=>((z121.F o1.1).bind λr2=>(some r2)))
def z125.pack:List V->Option Pack
 |[(.int .i64 a0)]=>some ⟨J0,z125.F a0,z113.enc⟩
 |_=>none
def z126.F (a0:J0) (a1:Bool):Option (J0×Bool):=
 ((z112.F a0 (!a1)).bind λr1=>(some (r1.1,r1.2)))
def z126.pack:List V->Option Pack
 |[(.agg [(.ints _ .i64 a0),(.bool a1)])]=>some ⟨J0×Bool,z126.F a0 a1,z112.enc⟩
 |_=>none
def z127.F (a0:J0) (a1:Int):Option (Int):=
 (bif (decide (a1>=(((a0).length:Nat):Int))) then (some 0) else (if 0<=a1/\a1<(a0.length:Int) then (some (a0.getD (a1).toNat 0)) else none))
def z127.pack:List V->Option Pack
 |[(.ints _ .i64 a0),(.int .i64 a1)]=>some ⟨Int,z127.F a0 a1,z10.enc⟩
 |_=>none
def z128.l0P (a b:J0) {R:Type} (rec done:(Int×Int×J0)->Option R):(Int×Int×J0)->Option R:=λx=>match x with
 |(c,d,e)=>(bif (decide (d<(((a).length:Nat):Int))) then ((z127.F a d).bind λg=>((z127.F b d).bind λh=>(if ((e).length+([(Int.tmod (wr .i64 ((wr .i64 (g+h))+c)) 10000)]).length)*8<=140737488355328 then (rec ((wr .i64 (Int.tdiv (wr .i64 ((wr .i64 (g+h))+c)) 10000)),(wr .i64 (d+1)),(e++[(Int.tmod (wr .i64 ((wr .i64 (g+h))+c)) 10000)]))) else none))) else (bif (decide (d<(((b).length:Nat):Int))) then ((z127.F a d).bind λj=>((z127.F b d).bind λk=>(if ((e).length+([(Int.tmod (wr .i64 ((wr .i64 (j+k))+c)) 10000)]).length)*8<=140737488355328 then (rec ((wr .i64 (Int.tdiv (wr .i64 ((wr .i64 (j+k))+c)) 10000)),(wr .i64 (d+1)),(e++[(Int.tmod (wr .i64 ((wr .i64 (j+k))+c)) 10000)]))) else none))) else (bif (decide (c>0)) then ((z127.F a d).bind λm=>((z127.F b d).bind λn=>(if ((e).length+([(Int.tmod (wr .i64 ((wr .i64 (m+n))+c)) 10000)]).length)*8<=140737488355328 then (rec ((wr .i64 (Int.tdiv (wr .i64 ((wr .i64 (m+n))+c)) 10000)),(wr .i64 (d+1)),(e++[(Int.tmod (wr .i64 ((wr .i64 (m+n))+c)) 10000)]))) else none))) else (done (c,d,e)))))
def z128.l0 (a b:J0) (x:(Int×Int×J0)):Option ((Int×Int×J0)):=lfp (λrec x=>z128.l0P a b rec some x) x
def z128.F (a0 a1:J0):Option (J0):=
 ((z128.l0 a0 a1 ((0:Int),(0:Int),[])).bind λo1=>((z120.F o1.2.2).bind λr2=>(some r2)))
def z128.pack:List V->Option Pack
 |[(.ints _ .i64 a0),(.ints _ .i64 a1)]=>some ⟨J0,z128.F a0 a1,z113.enc⟩
 |_=>none
def z129.l0P (a b:J0) {R:Type} (rec:Int->Option R) (done:((Int)⊕(Int))->Option R):Int->Option R:=λc=>(bif (decide (c>=0)) then (if 0<=c/\c<(a.length:Int) then (if 0<=c/\c<(b.length:Int) then (bif (decide ((a.getD (c).toNat 0)<(b.getD (c).toNat 0))) then (done (.inr (-1:Int))) else (if 0<=c/\c<(a.length:Int) then (if 0<=c/\c<(b.length:Int) then (bif (decide ((a.getD (c).toNat 0)>(b.getD (c).toNat 0))) then (done (.inr 1)) else (rec (wr .i64 (c-1)))) else none) else none)) else none) else none) else (done (.inl c)))
def z129.l0 (a b:J0) (x:Int):Option (((Int)⊕(Int))):=lfp (λrec x=>z129.l0P a b rec some x) x
def z129.F (a0 a1:J0):Option (Int):=
 (bif (!decide ((((a0).length:Nat):Int)=(((a1).length:Nat):Int))) then (bif (decide ((((a0).length:Nat):Int)<(((a1).length:Nat):Int))) then (some (-1:Int)) else (some 1)) else ((z129.l0 a0 a1 (wr .i64 ((((a0).length:Nat):Int)-1))).bind λo1=>match o1 with | .inl p2=>(some 0) | .inr q3=>(some q3)))
def z129.pack:List V->Option Pack
 |[(.ints _ .i64 a0),(.ints _ .i64 a1)]=>some ⟨Int,z129.F a0 a1,z10.enc⟩
 |_=>none
def z130.l0P (a b:J0) {R:Type} (rec done:(Int×Int×J0)->Option R):(Int×Int×J0)->Option R:=λx=>match x with
 |(c,d,e)=>(bif (decide (d<(((a).length:Nat):Int))) then ((z127.F b d).bind λg=>(if 0<=d/\d<(a.length:Int) then (bif (decide ((wr .i64 ((wr .i64 ((a.getD (d).toNat 0)-g))-c))<0)) then (if ((e).length+([(wr .i64 ((wr .i64 ((wr .i64 ((a.getD (d).toNat 0)-g))-c))+10000))]).length)*8<=140737488355328 then (rec ((1:Int),(wr .i64 (d+1)),(e++[(wr .i64 ((wr .i64 ((wr .i64 ((a.getD (d).toNat 0)-g))-c))+10000))]))) else none) else (if ((e).length+([(wr .i64 ((wr .i64 ((a.getD (d).toNat 0)-g))-c))]).length)*8<=140737488355328 then (rec ((0:Int),(wr .i64 (d+1)),(e++[(wr .i64 ((wr .i64 ((a.getD (d).toNat 0)-g))-c))]))) else none)) else none)) else (done (c,d,e)))
def z130.l0 (a b:J0) (x:(Int×Int×J0)):Option ((Int×Int×J0)):=lfp (λrec x=>z130.l0P a b rec some x) x
def z130.F (a0 a1:J0):Option (J0):=
 ((z130.l0 a0 a1 ((0:Int),(0:Int),[])).bind λo1=>((z120.F o1.2.2).bind λr2=>(some r2)))
def z130.pack:List V->Option Pack
 |[(.ints _ .i64 a0),(.ints _ .i64 a1)]=>some ⟨J0,z130.F a0 a1,z113.enc⟩
 |_=>none
def z131.F (a0:J0) (a1:Bool) (a2:J0) (a3:Bool):Option (J0×Bool):=
 (bif (decide (a1=a3)) then ((z128.F a0 a2).bind λr1=>((z112.F r1 a1).bind λr2=>(some (r2.1,r2.2)))) else ((z129.F a0 a2).bind λr3=>(bif (decide (r3>=0)) then ((z130.F a0 a2).bind λr4=>((z112.F r4 a1).bind λr5=>(some (r5.1,r5.2)))) else ((z130.F a2 a0).bind λr6=>((z112.F r6 a3).bind λr7=>(some (r7.1,r7.2)))))))
def z131.pack:List V->Option Pack
 |[(.agg [(.ints _ .i64 a0),(.bool a1)]),(.agg [(.ints _ .i64 a2),(.bool a3)])]=>some ⟨J0×Bool,z131.F a0 a1 a2 a3,z112.enc⟩
 |_=>none
def z132.F (a0:J0) (a1:Bool) (a2:J0) (a3:Bool):Option (J0×Bool):=
 ((z126.F a2 a3).bind λr1=>((z131.F a0 a1 r1.1 r1.2).bind λr2=>(some (r2.1,r2.2))))
def z132.pack:List V->Option Pack
 |[(.agg [(.ints _ .i64 a0),(.bool a1)]),(.agg [(.ints _ .i64 a2),(.bool a3)])]=>some ⟨J0×Bool,z132.F a0 a1 a2 a3,z112.enc⟩
 |_=>none
def z133.F (a0:J0) (a1:Bool):Option (Int):=
 (bif (decide ((((a0).length:Nat):Int)=0)) then (some 0) else (bif a1 then (some (-1:Int)) else (some 1)))
def z133.pack:List V->Option Pack
 |[(.agg [(.ints _ .i64 a0),(.bool a1)])]=>some ⟨Int,z133.F a0 a1,z10.enc⟩
 |_=>none
def z134.F (a0:J0) (a1:Bool) (a2:J0) (a3:Bool):Option (Int):=
 ((z132.F a0 a1 a2 a3).bind λr1=>((z133.F r1.1 r1.2).bind λr2=>(some r2)))
def z134.pack:List V->Option Pack
 |[(.agg [(.ints _ .i64 a0),(.bool a1)]),(.agg [(.ints _ .i64 a2),(.bool a3)])]=>some ⟨Int,z134.F a0 a1 a2 a3,z10.enc⟩
 |_=>none
def z135.F (a0:J1):Option (J0×Bool×Int):=
 ((z114.F 0).bind λr1=>((z124.F a0).bind λr2=>(bif (!decide (r2.2.2=0)) then (some (r1.1,r1.2,r2.2.2)) else ((z125.F 30).bind λr3=>((z112.F r3 false).bind λr4=>((z134.F r2.1 r2.2.1 r4.1 r4.2).bind λr5=>(bif r2.2.1 then (some (r1.1,r1.2,(19:Int))) else (bif (decide (r5>0)) then (some (r1.1,r1.2,(19:Int))) else (some (r2.1,r2.2.1,(0:Int)))))))))))
def z135.pack:List V->Option Pack
 |[(.str a0)]=>some ⟨J0×Bool×Int,z135.F a0,z124.enc⟩
 |_=>none
def z136.l0P (a:Int) {R:Type} (rec done:(J1)->Option R):(J1)->Option R:=λb=>(bif (decide ((b.length:Int)<=a)) then (if ([48]:J1).length+b.length<=9223372036854775807 then (rec (([48]:J1)++b)) else none) else (done b))
def z136.l0 (a:Int) (x:(J1)):Option ((J1)):=lfp (λrec x=>z136.l0P a rec some x) x
def z136.j3 (a1:Bool) (j3:J1):Option (J1):=
 (bif a1 then (if ([45]:J1).length+j3.length<=9223372036854775807 then (some (([45]:J1)++j3)) else none) else (some j3))
def z136.F (a0:J0) (a1:Bool) (a2:Int):Option (J1):=
 ((z107.F a0).bind λr1=>((z136.l0 a2 r1).bind λo2=>(bif (decide (a2>0)) then (if 0<=(wr .i64 ((o2.length:Int)-a2))/\(wr .i64 ((o2.length:Int)-a2))<=((o2).length:Int) then (if (o2.take ((wr .i64 ((o2.length:Int)-a2))).toNat).length+([46]:J1).length<=9223372036854775807 then (if 0<=(wr .i64 ((o2.length:Int)-a2))/\(wr .i64 ((o2.length:Int)-a2))<=((o2).length:Int) then (if ((o2.take ((wr .i64 ((o2.length:Int)-a2))).toNat)++([46]:J1)).length+(o2.drop ((wr .i64 ((o2.length:Int)-a2))).toNat).length<=9223372036854775807 then (z136.j3 a1 (((o2.take ((wr .i64 ((o2.length:Int)-a2))).toNat)++([46]:J1))++(o2.drop ((wr .i64 ((o2.length:Int)-a2))).toNat))) else none) else none) else none) else none) else (z136.j3 a1 o2))))
def z136.pack:List V->Option Pack
 |[(.agg [(.ints _ .i64 a0),(.bool a1),(.int .i64 a2)])]=>some ⟨J1,z136.F a0 a1 a2,z26.enc⟩
 |_=>none
def z137.F (a0:J0) (a1:Bool):Option (J1):=
 ((z136.F a0 a1 2).bind λr1=>(some r1))
def z137.pack:List V->Option Pack
 |[(.agg [(.ints _ .i64 a0),(.bool a1)])]=>some ⟨J1,z137.F a0 a1,z26.enc⟩
 |_=>none
def z138.l0P (a:J2) (b:List J1) {R:Type} (rec done:(J1×Int)->Option R):(J1×Int)->Option R:=λx=>match x with
 |(c,d)=>(bif (decide (d<(((a).length:Nat):Int))) then (if 0<=d/\d<(a.length:Int) then (V.asInt .i64 (((a.getD (d).toNat [])).getD 0 .undef) λe=>(V.asInt .i64 (((a.getD (d).toNat [])).getD 1 .undef) λg=>(V.asInt .i64 (((a.getD (d).toNat [])).getD 2 .undef) λh=>(V.asInt .i64 (((a.getD (d).toNat [])).getD 3 .undef) λj=>(V.asStr (((a.getD (d).toNat [])).getD 4 .undef) λk=>((z119.F g h j).bind λm=>(if 0<=d/\d<(a.length:Int) then (V.asInt .i64 (((a.getD (d).toNat [])).getD 0 .undef) λn=>(V.asInt .i64 (((a.getD (d).toNat [])).getD 1 .undef) λo=>(V.asInt .i64 (((a.getD (d).toNat [])).getD 2 .undef) λp=>(V.asInt .i64 (((a.getD (d).toNat [])).getD 3 .undef) λq=>(V.asStr (((a.getD (d).toNat [])).getD 4 .undef) λr=>(if 0<=n/\n<(b.length:Int) then (if c.length+(b.getD (n).toNat []).length<=9223372036854775807 then (if (c++(b.getD (n).toNat [])).length+([32]:J1).length<=9223372036854775807 then (if ((c++(b.getD (n).toNat []))++([32]:J1)).length+m.length<=9223372036854775807 then (if 0<=d/\d<(a.length:Int) then (V.asInt .i64 (((a.getD (d).toNat [])).getD 0 .undef) λs=>(V.asInt .i64 (((a.getD (d).toNat [])).getD 1 .undef) λt=>(V.asInt .i64 (((a.getD (d).toNat [])).getD 2 .undef) λu=>(V.asInt .i64 (((a.getD (d).toNat [])).getD 3 .undef) λv=>(V.asStr (((a.getD (d).toNat [])).getD 4 .undef) λw=>(bif (decide (s=2)) then (if (((c++(b.getD (n).toNat []))++([32]:J1))++m).length+([32]:J1).length<=9223372036854775807 then (if 0<=d/\d<(a.length:Int) then (V.asInt .i64 (((a.getD (d).toNat [])).getD 0 .undef) λy=>(V.asInt .i64 (((a.getD (d).toNat [])).getD 1 .undef) λz=>(V.asInt .i64 (((a.getD (d).toNat [])).getD 2 .undef) λA=>(V.asInt .i64 (((a.getD (d).toNat [])).getD 3 .undef) λB=>(V.asStr (((a.getD (d).toNat [])).getD 4 .undef) λC=>(if ((((c++(b.getD (n).toNat []))++([32]:J1))++m)++([32]:J1)).length+C.length<=9223372036854775807 then (if (((((c++(b.getD (n).toNat []))++([32]:J1))++m)++([32]:J1))++C).length+([59,10]:J1).length<=9223372036854775807 then (rec (((((((c++(b.getD (n).toNat []))++([32]:J1))++m)++([32]:J1))++C)++([59,10]:J1)),(wr .i64 (d+1)))) else none) else none)))))) else none) else none) else (if 0<=d/\d<(a.length:Int) then (V.asInt .i64 (((a.getD (d).toNat [])).getD 0 .undef) λD=>(V.asInt .i64 (((a.getD (d).toNat [])).getD 1 .undef) λE=>(V.asInt .i64 (((a.getD (d).toNat [])).getD 2 .undef) λG=>(V.asInt .i64 (((a.getD (d).toNat [])).getD 3 .undef) λH=>(V.asStr (((a.getD (d).toNat [])).getD 4 .undef) λI=>(bif (decide (I=([100,117,101]:J1))) then (if (((c++(b.getD (n).toNat []))++([32]:J1))++m).length+([32]:J1).length<=9223372036854775807 then (if 0<=d/\d<(a.length:Int) then (V.asInt .i64 (((a.getD (d).toNat [])).getD 0 .undef) λJ=>(V.asInt .i64 (((a.getD (d).toNat [])).getD 1 .undef) λK=>(V.asInt .i64 (((a.getD (d).toNat [])).getD 2 .undef) λL=>(V.asInt .i64 (((a.getD (d).toNat [])).getD 3 .undef) λM=>(V.asStr (((a.getD (d).toNat [])).getD 4 .undef) λN=>(if ((((c++(b.getD (n).toNat []))++([32]:J1))++m)++([32]:J1)).length+N.length<=9223372036854775807 then (if (((((c++(b.getD (n).toNat []))++([32]:J1))++m)++([32]:J1))++N).length+([59,10]:J1).length<=9223372036854775807 then (rec (((((((c++(b.getD (n).toNat []))++([32]:J1))++m)++([32]:J1))++N)++([59,10]:J1)),(wr .i64 (d+1)))) else none) else none)))))) else none) else none) else (if 0<=d/\d<(a.length:Int) then (V.asInt .i64 (((a.getD (d).toNat [])).getD 0 .undef) λO=>(V.asInt .i64 (((a.getD (d).toNat [])).getD 1 .undef) λP=>(V.asInt .i64 (((a.getD (d).toNat [])).getD 2 .undef) λQ=>(V.asInt .i64 (((a.getD (d).toNat [])).getD 3 .undef) λS=>(V.asStr (((a.getD (d).toNat [])).getD 4 .undef) λU=>(bif (decide (O<2)) then (if 0<=d/\d<(a.length:Int) then (V.asInt .i64 (((a.getD (d).toNat [])).getD 0 .undef) λW=>(V.asInt .i64 (((a.getD (d).toNat [])).getD 1 .undef) λY=>(V.asInt .i64 (((a.getD (d).toNat [])).getD 2 .undef) λZ=>(V.asInt .i64 (((a.getD (d).toNat [])).getD 3 .undef) λa0=>(V.asStr (((a.getD (d).toNat [])).getD 4 .undef) λa1=>((z135.F a1).bind λa2=>((z137.F a2.1 a2.2.1).bind λa3=>(if (((c++(b.getD (n).toNat []))++([32]:J1))++m).length+([32]:J1).length<=9223372036854775807 then (if ((((c++(b.getD (n).toNat []))++([32]:J1))++m)++([32]:J1)).length+a3.length<=9223372036854775807 then (if (((((c++(b.getD (n).toNat []))++([32]:J1))++m)++([32]:J1))++a3).length+([59,10]:J1).length<=9223372036854775807 then (rec (((((((c++(b.getD (n).toNat []))++([32]:J1))++m)++([32]:J1))++a3)++([59,10]:J1)),(wr .i64 (d+1)))) else none) else none) else none)))))))) else none) else (if (((c++(b.getD (n).toNat []))++([32]:J1))++m).length+([59,10]:J1).length<=9223372036854775807 then (rec (((((c++(b.getD (n).toNat []))++([32]:J1))++m)++([59,10]:J1)),(wr .i64 (d+1)))) else none))))))) else none))))))) else none))))))) else none) else none) else none) else none) else none)))))) else none))))))) else none) else (done (c,d)))
def z138.l0 (a:J2) (b:List J1) (x:(J1×Int)):Option ((J1×Int)):=lfp (λrec x=>z138.l0P a b rec some x) x
def z138.F (a0:J2):Option (J1):=
 ((z138.l0 a0 [([112,97,121]:J1),([112,114,101,112,97,121]:J1),([114,101,115,101,116]:J1),([112,97,115,115]:J1)] (([]:J1),(0:Int))).bind λo1=>(some o1.1))
def z138.pack:List V->Option Pack
 |[(.recs _ 5 a0)]=>some ⟨J1,z138.F a0,z26.enc⟩
 |_=>none
def z139.F (a0 a1:Int):Option (Int×Int):=
 ((z21.F a0 a1).bind λr1=>(some (r1.1,r1.2)))
def z139.pack:List V->Option Pack
 |[(.int .u64 a0),(.int .u64 a1)]=>some ⟨Int×Int,z139.F a0 a1,z19.enc⟩
 |_=>none
def z140.l0P {R:Type} (rec done:(Int×J2)->Option R):(Int×J2)->Option R:=λx=>match x with
 |(a,b)=>(bif (decide (a<(((b).length:Nat):Int))) then (if 0<=a/\a<=((b).length:Int) then (if 0<=a/\a<=((b).length:Int) then (rec ((wr .i64 (a+(((min (((b.drop 0).take (a).toNat)).length ((b).length-(a).toNat)):Nat):Int))),((b.take (a).toNat++((b.drop 0).take (a).toNat).take (min (((b.drop 0).take (a).toNat)).length ((b).length-(a).toNat)))++b.drop ((a).toNat+(min (((b.drop 0).take (a).toNat)).length ((b).length-(a).toNat)))))) else none) else none) else (done (a,b)))
def z140.l0 (x:(Int×J2)):Option ((Int×J2)):=lfp (λrec x=>z140.l0P rec some x) x
def z140.j2 (r1:Int×Int) (a0:J2):Option (J2):=
 (if 0<=(wr .i64 r1.2)/\(wr .i64 r1.2)*48<=140737488355328 then ((z140.l0 ((((min (a0).length ((List.replicate ((wr .i64 r1.2)).toNat ([(.int .i64 0),(.int .i64 0),(.int .i64 0),(.int .i64 0),(.str ([]:J1))]:List V))).length):Nat):Int),(((List.replicate ((wr .i64 r1.2)).toNat ([(.int .i64 0),(.int .i64 0),(.int .i64 0),(.int .i64 0),(.str ([]:J1))]:List V)).take 0++a0.take (min (a0).length ((List.replicate ((wr .i64 r1.2)).toNat ([(.int .i64 0),(.int .i64 0),(.int .i64 0),(.int .i64 0),(.str ([]:J1))]:List V))).length))++(List.replicate ((wr .i64 r1.2)).toNat ([(.int .i64 0),(.int .i64 0),(.int .i64 0),(.int .i64 0),(.str ([]:J1))]:List V)).drop (0+(min (a0).length ((List.replicate ((wr .i64 r1.2)).toNat ([(.int .i64 0),(.int .i64 0),(.int .i64 0),(.int .i64 0),(.str ([]:J1))]:List V))).length))))).bind λo3=>(some o3.2)) else none)
def z140.F (a0:J2) (a1:Int):Option (J2):=
 (bif (decide (a1<0)) then none else ((z139.F (wr .u64 (((a0).length:Nat):Int)) (wr .u64 a1)).bind λr1=>(bif (decide (r1.1>0)) then none else (bif (decide (r1.2>9223372036854775807)) then none else (z140.j2 r1 a0)))))
def z140.pack:List V->Option Pack
 |[(.recs _ 5 a0),(.int .i64 a1)]=>some ⟨J2,z140.F a0 a1,z115.enc⟩
 |_=>none
def z141.F (a0 a1:J1):Option (Bool):=
 (bif (decide ((a0.length:Int)>=(a1.length:Int))) then (if 0<=(wr .i64 ((a0.length:Int)-(a1.length:Int)))/\(wr .i64 ((a0.length:Int)-(a1.length:Int)))<=((a0).length:Int) then (some (decide ((a0.drop ((wr .i64 ((a0.length:Int)-(a1.length:Int)))).toNat)=a1))) else none) else (some false))
def z141.pack:List V->Option Pack
 |[(.str a0),(.str a1)]=>some ⟨Bool,z141.F a0 a1,z8.enc⟩
 |_=>none
def z142.F (a0 a1:J1):Option (J1):=
 ((z141.F a0 a1).bind λr1=>(bif r1 then (if 0<=(wr .i64 ((a0.length:Int)-(a1.length:Int)))/\(wr .i64 ((a0.length:Int)-(a1.length:Int)))<=((a0).length:Int) then (some (a0.take ((wr .i64 ((a0.length:Int)-(a1.length:Int)))).toNat)) else none) else (some a0)))
def z142.pack:List V->Option Pack
 |[(.str a0),(.str a1)]=>some ⟨J1,z142.F a0 a1,z26.enc⟩
 |_=>none
def z143.F (a0 a1:J1):Option (J1):=
 ((z142.F a0 a1).bind λr1=>(some r1))
def z143.pack:List V->Option Pack
 |[(.str a0),(.str a1)]=>some ⟨J1,z143.F a0 a1,z26.enc⟩
 |_=>none
def z144.j12 (r2:J2) (j10 j11 j12 a6:Int) (r3:J1×Int):Option (Bool):=
 (if 0<=(((r2).length:Nat):Int)/\(((r2).length:Nat):Int)<=(((r2).length:Nat):Int)/\(((r2).length:Nat):Int)<=(r2.length:Int) then ((z140.F ([[(.int .i64 3),(.int .i64 j10),(.int .i64 j11),(.int .i64 j12),(.str ([]:J1))]]:J2) (wr .i64 ((wr .i64 ((wr .i64 ((10000:Int)-(((r2).length:Nat):Int)))-2))+(wr .i64 (Int.tmod a6 5))))).bind λr13=>(if (((r2.take ((((r2).length:Nat):Int)).toNat)).length+(r13).length)*48<=140737488355328 then (bif (decide ((((r2).length:Nat):Int)=(((r2).length:Nat):Int))) then ((z99.F ((r2.take ((((r2).length:Nat):Int)).toNat)++r13)).bind λr14=>((z138.F ([[(.int .i64 3),(.int .i64 j10),(.int .i64 j11),(.int .i64 j12),(.str ([]:J1))]]:J2)).bind λr15=>((z143.F r15 ([10]:J1)).bind λr16=>((z5.F r16 (wr .i64 ((wr .i64 ((wr .i64 ((10000:Int)-(((r2).length:Nat):Int)))-2))+(wr .i64 (Int.tmod a6 5))))).bind λr17=>(if r3.1.length+r17.length<=9223372036854775807 then ((z97.F (r3.1++r17)).bind λr18=>(bif (decide ((((((r2.take ((((r2).length:Nat):Int)).toNat)++r13)).length:Nat):Int)>10000)) then (z105.F.bind λr19=>(bif r19 then (bif (decide (r14.2=6)) then (bif (decide (r18.2.2=6)) then (some (decide ((((r18.1).length:Nat):Int)=0))) else (some false)) else (some false)) else (some false))) else (z105.F.bind λr20=>(bif r20 then (bif (decide (r14.2=0)) then (bif (decide (r18.2.2=0)) then ((z106.F r18.1 ((r2.take ((((r2).length:Nat):Int)).toNat)++r13)).bind λr21=>(some r21)) else (some false)) else (some false)) else (some false))))) else none))))) else none) else none)) else none)
def z144.F (a0 a1 a2:Int) (a3 a4 a5:J0) (a6:Int):Option (Bool):=
 ((z117.F a0 a1 a2 a3 a4 a5).bind λr1=>((z115.F a0 a1 a2 a3 a4 a5 r1.1 r1.2.1 r1.2.2).bind λr2=>((z104.F r2).bind λr3=>(bif (!decide (r3.2=0)) then (some false) else ((z117.F a0 a1 a2 a3 a4 a5).bind λr4=>(bif (decide ((((r2).length:Nat):Int)>0)) then (if 0<=(wr .i64 ((((r2).length:Nat):Int)-1))/\(wr .i64 ((((r2).length:Nat):Int)-1))<(r2.length:Int) then (V.asInt .i64 (((r2.getD ((wr .i64 ((((r2).length:Nat):Int)-1))).toNat [])).getD 0 .undef) λc5=>(V.asInt .i64 (((r2.getD ((wr .i64 ((((r2).length:Nat):Int)-1))).toNat [])).getD 1 .undef) λc6=>(V.asInt .i64 (((r2.getD ((wr .i64 ((((r2).length:Nat):Int)-1))).toNat [])).getD 2 .undef) λc7=>(V.asInt .i64 (((r2.getD ((wr .i64 ((((r2).length:Nat):Int)-1))).toNat [])).getD 3 .undef) λc8=>(V.asStr (((r2.getD ((wr .i64 ((((r2).length:Nat):Int)-1))).toNat [])).getD 4 .undef) λc9=>(z144.j12 r2 c6 c7 c8 a6 r3)))))) else none) else (z144.j12 r2 r4.1 r4.2.1 r4.2.2 a6 r3)))))))
def z144.pack:List V->Option Pack
 |[(.agg [(.int .i64 a0),(.int .i64 a1),(.int .i64 a2),(.ints _ .u8 a3),(.ints _ .u8 a4),(.ints _ .u32 a5)]),(.int .u8 a6)]=>some ⟨Bool,z144.F a0 a1 a2 a3 a4 a5 a6,z8.enc⟩
 |_=>none
end
end Go.Proofs.YtjfipepaaddlmaaGreatDoor.A
end
section
set_option maxRecDepth 100000
namespace Go.Proofs.YtjfipepaaddlmaaGreatDoor.A
open Go
noncomputable section
def z8.C:Ctx where
 T:=tab
def z8.dec:V->Option (Bool)
 |(.bool x0)=>some x0
 |_=>none
theorem z8.link (a0:J0):z8.C.evTop 60 (ifun Tryz.f60) [(.agg [(.ints false .u64 a0)])] z8.dec=z8.F a0:=by kernel_rfl
def z13.l0sh:Env×Store:=(.undef :: .undef::(.ptr 0 0)::(.ptr 1 0)::(.int .i64 0) :: .undef::(.int .i64 0)::un 33 [],[(.cells 37 [(.ints false .u64 [])]),(.cells 37 [(.ints false .u64 [])])])
def z13.l0so1:Env×Store:=(un 4 ((.int .i64 0)::un 35 []),[(.cells 37 [(.ints false .u64 [])]),(.cells 37 [(.ints false .u64 [])])])
def z13.l0out0 (a b:Int) (c d:J0) (o:Int):X×Env×Store:=((.exit 0),Qa z13.l0sh [.i a,.i o,.li c,.li d])
def z13.l0out1 (a b:Int) (c d:J0) (o:Int):X×Env×Store:=(.ret,Qa z13.l0so1 [.i o,.li c,.li d])
def z13.l0pack:List Leaf->Option LPack
 |[.i a,.i b,.li c,.li d]=>some (.two _ _ (z13.l0 c d b) (z13.l0out0 a b c d) (z13.l0out1 a b c d))
 |_=>none
def z13.C:Ctx where
 T:=tab
 draws:=λf i=>match f,i with|105,7=>([(27,[(2,0)],0),(28,[(26,1)],1),(29,[(6,0)],0),(30,[(27,2),(28,3)],7),(31,[(29,4)],15),(32,[(3,0)],0),(33,[(31,6)],32),(34,[(6,0)],0),(35,[(32,7),(33,8)],224),(36,[(34,9)],480),(37,[(30,5),(35,10)],1023),(8,[(36,11)],2047)],137371844736)|_,_=>([],0)
 call:=Qh [(153,z10.pack),(154,z12.pack)]
 keep:=λf i=>match f,i with|105,0=>([2,3,4,6],[0,1],[])|_,_=>([],[],[])
 keepR:=λf i=>match f,i with|105,0=>([4],[0,1],[4])|_,_=>([],[],[])
 L:=λf i b st=>match f,i,b with|105,0,0=>(matchSt z13.l0sh st).bind z13.l0pack|_,_,_=>none
def z13.dec:V->Option (Int)
 |(.int .i64 x0)=>some x0
 |_=>none
theorem z13.l0_link (R:Type) (k:Env×Store->Option R) (d:X×Env×Store->Option R) (a b:Int) (c e:J0) :
  z13.C.loopP 105 0 (Qf 0 (ifun Tryz.f105).body) 2 k d (Qa z13.l0sh [.i a,.i b,.li c,.li e]) =
  z13.l0P c e (λx'=>k (Qa z13.l0sh [.i a,.i x',.li c,.li e])) (λo=>match o with | .inl o=>d (z13.l0out0 a b c e o) | .inr o=>d (z13.l0out1 a b c e o)) b:=by kernel_rfl
theorem z13.link (a0 a1:J0):z13.C.evTop 105 (ifun Tryz.f105) [(.agg [(.ints false .u64 a0)]),(.agg [(.ints false .u64 a1)])] z13.dec=z13.F a0 a1:=by kernel_rfl
def z14.l0sh:Env×Store:=((.ints false .u64 []) :: .undef::(.ptr 0 0)::(.int .i64 0)::un 19 [],[(.cells 37 [(.ints false .u64 [])])])
def z14.l0out0 (a:J0) (b:Int) (c:J0) (o:Int):X×Env×Store:=((.exit 0),Qa z14.l0sh [.li a,.i o,.li c])
def z14.l0pack:List Leaf->Option LPack
 |[.li a,.i b,.li c]=>some (.one _ (z14.l0 a b) (z14.l0out0 a b c))
 |_=>none
def z14.C:Ctx where
 T:=tab
 keep:=λf i=>match f,i with|104,0=>([0,2,3],[0],[])|_,_=>([],[],[])
 keepR:=λf i=>match f,i with|104,0=>([2],[0],[2])|_,_=>([],[],[])
 L:=λf i b st=>match f,i,b with|104,0,0=>(matchSt z14.l0sh st).bind z14.l0pack|_,_,_=>none
def z14.dec:V->Option (J0)
 |(.agg [(.ints _ .u64 x0)])=>some x0
 |_=>none
theorem z14.l0_link (R:Type) (k:Env×Store->Option R) (d:X×Env×Store->Option R) (a:J0) (b:Int) (c:J0) :
  z14.C.loopP 104 0 (Qf 0 (ifun Tryz.f104).body) 1 k d (Qa z14.l0sh [.li a,.i b,.li c]) =
  z14.l0P a (λx'=>k (Qa z14.l0sh [.li a,.i x',.li c])) (λo=>d (z14.l0out0 a b c o)) b:=by kernel_rfl
theorem z14.link (a0:J0):z14.C.evTop 104 (ifun Tryz.f104) [(.ints false .u64 a0)] z14.dec=z14.F a0:=by kernel_rfl
def z24.l0sh:Env×Store:=(.undef::(.int .u64 0) :: .undef :: .undef::(.sref 2 0)::(.sref 3 0)::un 6 ((.ints false .u64 [])::(.int .i64 0)::(.int .i64 0)::un 23 []),[(.arr 0 true 183 (.ints false .u64 [])),(.arr 0 true 183 (.ints false .u64 [])),(.arr 0 true 183 (.ints false .u64 [])),(.arr 0 false 183 (.ints false .u64 []))])
def z24.l0out0 (a:Int) (b:J0) (c d:Int) (e g h j:J0) (o:Int×J0):X×Env×Store:=((.exit 0),Qa z24.l0sh [.i a,.li b,.i c,.i o.1,.li e,.li g,.li h,.li o.2])
def z24.l0pack:List Leaf->Option LPack
 |[.i a,.li b,.i c,.i d,.li e,.li g,.li h,.li j]=>some (.one _ (z24.l0 a b c (d,j)) (z24.l0out0 a b c d e g h j))
 |_=>none
def z24.l0ash:Env×Store:=(.undef::(.int .u64 0) :: .undef :: .undef::(.sref 4 0)::(.sref 5 0)::un 6 ((.ints false .u64 [])::(.int .i64 0)::(.int .i64 0)::un 23 []),[(.arr 0 true 183 (.ints false .u64 [])),(.arr 0 true 183 (.ints false .u64 [])),(.arr 0 true 183 (.ints false .u64 [])),(.arr 0 false 183 (.ints false .u64 [])),(.arr 0 true 183 (.ints false .u64 [])),(.arr 0 false 183 (.ints false .u64 []))])
def z24.l0aout0 (a:Int) (b:J0) (c d:Int) (e g h j k m:J0) (o:Int×J0):X×Env×Store:=((.exit 0),Qa z24.l0ash [.i a,.li b,.i c,.i o.1,.li e,.li g,.li h,.li j,.li k,.li o.2])
def z24.l0apack:List Leaf->Option LPack
 |[.i a,.li b,.i c,.i d,.li e,.li g,.li h,.li j,.li k,.li m]=>some (.one _ (z24.l0a a b c (d,m)) (z24.l0aout0 a b c d e g h j k m))
 |_=>none
def z24.l0b3sh:Env×Store:=((.sview 3 0 0 0)::(.sview 5 0 0 0)::(.int .u64 0)::un 3 ((.int .u64 0)::(.int .u64 0)::(.int .u64 0)::un 5 ((.sview 5 0 0 0)::(.int .i64 0)::(.int .i64 0)::un 49 [])),[(.arr 0 true 183 (.ints false .u64 [])),(.arr 0 true 183 (.ints false .u64 [])),.dead,(.arr 0 false 183 (.ints false .u64 [])),.dead,(.arr 0 false 183 (.ints false .u64 [])),(.arr 0 false 183 (.ints false .u64 []))])
def z24.l0b3out0 (a b c d:Nat) (e g h j:Int) (k m:Nat) (p q:Int) (r s t u v:J0) (o:Int×Int×Int×J0):X×Env×Store:=((.exit 0),Qa z24.l0b3sh [.n a,.n b,.n c,.n d,.i e,.i g,.i o.1,.i o.2.1,.n k,.n m,.i p,.i o.2.2.1,.li r,.li s,.li o.2.2.2,.li u,.li v])
def z24.l0b3pack:List Leaf->Option LPack
 |[.n a,.n b,.n c,.n d,.i e,.i g,.i h,.i j,.n k,.n m,.i o,.i p,.li q,.li r,.li s,.li t,.li u]=>some (.one _ (z24.l0b3 a b e k m o t (h,j,p,s)) (z24.l0b3out0 a b c d e g h j k m o p q r s t u))
 |_=>none
def z24.l0b4sh:Env×Store:=((.sview 3 0 0 0)::(.sview 5 0 0 0) :: .undef :: .undef::(.int .u64 0) :: .undef :: .undef::(.sview 5 0 0 0)::(.int .i64 0)::(.int .i64 0)::un 26 [],[(.arr 0 true 183 (.ints false .u64 [])),(.arr 0 true 183 (.ints false .u64 [])),.dead,(.arr 0 false 183 (.ints false .u64 [])),.dead,(.arr 0 false 183 (.ints false .u64 [])),(.arr 0 false 183 (.ints false .u64 []))])
def z24.l0b4out0 (a b c d:Nat) (e:Int) (g h:Nat) (j k:Int) (m p q r s:J0) (o:Int×Int×J0):X×Env×Store:=((.exit 0),Qa z24.l0b4sh [.n a,.n b,.n c,.n d,.i o.1,.n g,.n h,.i j,.i o.2.1,.li m,.li p,.li o.2.2,.li r,.li s])
def z24.l0b4pack:List Leaf->Option LPack
 |[.n a,.n b,.n c,.n d,.i e,.n g,.n h,.i j,.i k,.li m,.li o,.li p,.li q,.li r]=>some (.one _ (z24.l0b4 a b g h j q (e,k,p)) (z24.l0b4out0 a b c d e g h j k m o p q r))
 |_=>none
def z24.l2sh:Env×Store:=((.sref 3 0)::(.sview 5 0 0 0) :: .undef :: .undef::(.sref 0 0)::(.sref 1 0)::(.int .u64 0)::(.sref 6 0)::(.int .i64 0)::(.sview 3 0 0 0)::(.int .u64 0)::(.int .u64 0)::un 75 [],[(.arr 0 true 183 (.ints false .u64 [])),(.arr 0 true 183 (.ints false .u64 [])),.dead,(.arr 0 false 183 (.ints false .u64 [])),.dead,(.arr 0 false 183 (.ints false .u64 [])),(.arr 0 false 183 (.ints false .u64 []))])
def z24.l2out0 (a b:Nat) (c d:Int) (e g:Nat) (h j:Int) (k m p q r:J0) (o:Int×Int×J0):X×Env×Store:=((.exit 2),Qa z24.l2sh [.n a,.n b,.i c,.i d,.n e,.n g,.i o.1,.i o.2.1,.li k,.li m,.li o.2.2,.li q,.li r])
def z24.l2pack:List Leaf->Option LPack
 |[.n a,.n b,.i c,.i d,.n e,.n g,.i h,.i j,.li k,.li m,.li o,.li p,.li q]=>some (.one _ (z24.l2 a b e g p (h,j,o)) (z24.l2out0 a b c d e g h j k m o p q))
 |_=>none
def z24.l0aash:Env×Store:=((.sref 3 0)::(.sview 5 0 0 0) :: .undef :: .undef::(.sref 0 0)::(.sref 1 0)::(.int .u64 0)::(.sref 6 0)::(.int .i64 0)::un 78 [],[(.arr 0 true 183 (.ints false .u64 [])),(.arr 0 true 183 (.ints false .u64 [])),.dead,(.arr 0 false 183 (.ints false .u64 [])),.dead,(.arr 0 false 183 (.ints false .u64 [])),(.arr 0 false 183 (.ints false .u64 []))])
def z24.l0aaout0 (a b:Nat) (c d:Int) (e g h j k:J0) (o:Int×J0×J0):X×Env×Store:=((.exit 0),Qa z24.l0aash [.n a,.n b,.i c,.i o.1,.li e,.li g,.li o.2.1,.li j,.li o.2.2])
def z24.l0aapack:List Leaf->Option LPack
 |[.n a,.n b,.i c,.i d,.li e,.li g,.li h,.li j,.li k]=>some (.one _ (z24.l0aa a b j (d,h,k)) (z24.l0aaout0 a b c d e g h j k))
 |_=>none
def z24.C:Ctx where
 T:=tab
 draws:=λf i=>match f,i with|156,2=>([(23,[(0,10)],0),(24,[(6,0)],0),(25,[(22,1),(23,2)],3),(26,[(1,11)],0),(27,[(6,0)],0),(28,[(25,4),(26,5)],31),(29,[(1,11)],0),(30,[(28,7)],64),(31,[(27,6),(29,8)],255),(1,[(24,3)],63),(2,[(30,9)],1023)],2143289347)|200,2=>([(18,[(0,0)],0),(19,[(5,0)],0),(20,[(17,1),(18,2)],3),(21,[(19,3)],7),(22,[(0,0)],0),(23,[(5,0)],0),(24,[(22,6)],32),(25,[(21,5),(23,7)],112),(26,[(24,8)],240),(27,[(0,0)],0),(28,[(5,0)],0),(29,[(27,11)],1024),(30,[(26,10),(28,12)],3584),(31,[(29,13)],7680),(7,[(20,4)],15),(8,[(25,9)],16895),(9,[(30,14)],65535)],2147353024)|_,_=>([],0)
 call:=Qh [(198,z18.pack),(145,z21.pack),(102,z0.pack),(106,z1.pack),(197,z19.pack),(108,z15.pack),(203,z23.pack),(109,z16.pack)]
 inl:=λg=>match g with|199=>some (ifun Tryz.f199)|200=>some (ifun Tryz.f200)|201=>some (ifun Tryz.f201)|202=>some (ifun Tryz.f202)|_=>none
 keep:=λf i=>match f,i with|199,0=>([1,4,5,12,13,14],List.range 64,[])|201,0=>([0,1,2,6,7,8,14,15,16],List.range 64,[])|202,0=>([0,1,4,7,8,9],List.range 64,[])|156,2=>([0,1,4,5,6,7,8,9,10,11],[0,1,3,5,6],[])|156,0=>([0,1,4,5,6,7,8],[0,1,3,5,6],[])|_,_=>([],[],[])
 keepR:=λf i=>match f,i with|199,0=>([4],List.range 64,[])|201,0=>([6],List.range 64,[])|202,0=>([],List.range 64,[])|156,2=>([4,5],[0,1,3,5,6],[4,5])|156,0=>([4,5],[0,1,3,5,6],[4,5])|_,_=>([],[],[])
 unroll:=λf i=>match f,i with|200,1000000=>2|_,_=>0
 L:=λf i b st=>match f,i,b with|199,0,2=>(matchSt z24.l0sh st).bind z24.l0pack|199,0,4=>(matchSt z24.l0ash st).bind z24.l0apack|201,0,7=>(matchSt z24.l0b3sh st).bind z24.l0b3pack|202,0,7=>(matchSt z24.l0b4sh st).bind z24.l0b4pack|156,2,0=>(matchSt z24.l2sh st).bind z24.l2pack|156,0,0=>(matchSt z24.l0aash st).bind z24.l0aapack|_,_,_=>none
def z24.dec:V->Option (J0×J0)
 |(.tup [(.ints _ .u64 x0),(.ints _ .u64 x1)])=>some (x0,x1)
 |_=>none
theorem z24.l0_link (R:Type) (k:Env×Store->Option R) (d:X×Env×Store->Option R) (a:Int) (b:J0) (c e:Int) (g h j m:J0) :
  z24.C.loopPI (z24.C.inlK 0) 199 0 2 (Qf 0 (ifun Tryz.f199).body) 4 k d (Qa z24.l0sh [.i a,.li b,.i c,.i e,.li g,.li h,.li j,.li m]) =
  z24.l0P a b c (λx'=>k (Qa z24.l0sh [.i a,.li b,.i c,.i x'.1,.li g,.li h,.li j,.li x'.2])) (λo=>d (z24.l0out0 a b c e g h j m o)) (e,m):=by kernel_rfl
theorem z24.l0a_link (R:Type) (k:Env×Store->Option R) (d:X×Env×Store->Option R) (a:Int) (b:J0) (c e:Int) (g h j m n p:J0) :
  z24.C.loopPI (z24.C.inlK 0) 199 0 4 (Qf 0 (ifun Tryz.f199).body) 6 k d (Qa z24.l0ash [.i a,.li b,.i c,.i e,.li g,.li h,.li j,.li m,.li n,.li p]) =
  z24.l0aP a b c (λx'=>k (Qa z24.l0ash [.i a,.li b,.i c,.i x'.1,.li g,.li h,.li j,.li m,.li n,.li x'.2])) (λo=>d (z24.l0aout0 a b c e g h j m n p o)) (e,p):=by kernel_rfl
theorem z24.l0b3_link (R:Type) (k:Env×Store->Option R) (d:X×Env×Store->Option R) (a b c e:Nat) (g h j m:Int) (p q:Nat) (r s:Int) (t u v w x:J0) :
  z24.C.loopPI (z24.C.inlK 0) 201 0 7 (Qf 0 (ifun Tryz.f201).body) 7 k d (Qa z24.l0b3sh [.n a,.n b,.n c,.n e,.i g,.i h,.i j,.i m,.n p,.n q,.i r,.i s,.li t,.li u,.li v,.li w,.li x]) =
  z24.l0b3P a b g p q r w (λx'=>k (Qa z24.l0b3sh [.n a,.n b,.n c,.n e,.i g,.i h,.i x'.1,.i x'.2.1,.n p,.n q,.i r,.i x'.2.2.1,.li t,.li u,.li x'.2.2.2,.li w,.li x])) (λo=>d (z24.l0b3out0 a b c e g h j m p q r s t u v w x o)) (j,m,s,v):=by kernel_rfl
theorem z24.l0b4_link (R:Type) (k:Env×Store->Option R) (d:X×Env×Store->Option R) (a b c e:Nat) (g:Int) (h j:Nat) (m p:Int) (q r s t u:J0) :
  z24.C.loopPI (z24.C.inlK 0) 202 0 7 (Qf 0 (ifun Tryz.f202).body) 7 k d (Qa z24.l0b4sh [.n a,.n b,.n c,.n e,.i g,.n h,.n j,.i m,.i p,.li q,.li r,.li s,.li t,.li u]) =
  z24.l0b4P a b h j m t (λx'=>k (Qa z24.l0b4sh [.n a,.n b,.n c,.n e,.i x'.1,.n h,.n j,.i m,.i x'.2.1,.li q,.li r,.li x'.2.2,.li t,.li u])) (λo=>d (z24.l0b4out0 a b c e g h j m p q r s t u o)) (g,p,s):=by kernel_rfl
theorem z24.l2_link (R:Type) (k:Env×Store->Option R) (d:X×Env×Store->Option R) (a b:Nat) (c e:Int) (g h:Nat) (j m:Int) (p q r s t:J0) :
  z24.C.loopP 156 2 (Qf 2 (ifun Tryz.f156).body) 7 k d (Qa z24.l2sh [.n a,.n b,.i c,.i e,.n g,.n h,.i j,.i m,.li p,.li q,.li r,.li s,.li t]) =
  z24.l2P a b g h s (λx'=>k (Qa z24.l2sh [.n a,.n b,.i c,.i e,.n g,.n h,.i x'.1,.i x'.2.1,.li p,.li q,.li x'.2.2,.li s,.li t])) (λo=>d (z24.l2out0 a b c e g h j m p q r s t o)) (j,m,r):=by kernel_rfl
theorem z24.l0aa_link (R:Type) (k:Env×Store->Option R) (d:X×Env×Store->Option R) (a b:Nat) (c e:Int) (g h j m p:J0) :
  z24.C.loopP 156 0 (Qf 0 (ifun Tryz.f156).body) 7 k d (Qa z24.l0aash [.n a,.n b,.i c,.i e,.li g,.li h,.li j,.li m,.li p]) =
  z24.l0aaP a b m (λx'=>k (Qa z24.l0aash [.n a,.n b,.i c,.i x'.1,.li g,.li h,.li x'.2.1,.li m,.li x'.2.2])) (λo=>d (z24.l0aaout0 a b c e g h j m p o)) (e,j,p):=by kernel_rfl
theorem z24.link (a0 a1:J0):z24.C.evTop 156 (ifun Tryz.f156) [(.ints false .u64 a0),(.ints false .u64 a1)] z24.dec=z24.F a0 a1:=by kernel_rfl
def z25.C:Ctx where
 T:=tab
 draws:=λf i=>match f,i with|107,4=>([(22,[],0),(23,[(2,0)],0),(0,[(4,0),(21,1)],1),(0,[(5,0),(22,2)],7),(7,[],15)],6291520)|107,5=>([(24,[(2,0)],0),(25,[(23,1)],1),(26,[(3,0)],0),(27,[(25,3)],7),(8,[(24,2)],15),(9,[(26,4)],31)],125829504)|_,_=>([],0)
 call:=Qh [(60,z8.pack),(105,z13.pack),(109,z16.pack),(155,z20.pack),(108,z15.pack),(156,z24.pack)]
def z25.dec:V->Option (J0×J0×Int)
 |(.tup [(.agg [(.ints _ .u64 x0)]),(.agg [(.ints _ .u64 x1)]),(.int .i64 x2)])=>some (x0,x1,x2)
 |_=>none
theorem z25.link (a0 a1:J0):z25.C.evTop 107 (ifun Tryz.f107) [(.agg [(.ints false .u64 a0)]),(.agg [(.ints false .u64 a1)])] z25.dec=z25.F a0 a1:=by kernel_rfl
def z28.C:Ctx where
 T:=tab
 call:=Qh [(55,z27.pack)]
def z28.dec:V->Option (J1)
 |(.str x0)=>some x0
 |_=>none
theorem z28.link (a0:J0) (a1:Bool):z28.C.evTop 13 (ifun Tryz.f13) [(.agg [(.ints false .u64 a0),(.bool a1)])] z28.dec=z28.F a0 a1:=by kernel_rfl
def z29.C:Ctx where
 T:=tab
 call:=Qh [(60,z8.pack)]
theorem z29.link (a0:J0) (a1:Bool):z29.C.evTop 16 (ifun Tryz.f16) [(.agg [(.ints false .u64 a0),(.bool a1)])] z13.dec=z29.F a0 a1:=by kernel_rfl
def z36.l0ash:Env×Store:=(.undef::(.int .u64 0)::(.sview 3 0 0 0)::(.ptr 4 0) :: .undef :: .undef::(.int .u64 0)::un 6 ((.ints false .u64 [])::(.int .i64 0)::(.int .i64 0)::un 44 []),[(.cells 37 [(.ints false .u64 [])]),.dead,(.cells 37 [(.ints false .u64 [])]),(.arr 0 false 183 (.ints false .u64 [])),(.cells 37 [(.ints false .u64 [])])])
def z36.l0aout0 (a:Int) (b c:Nat) (d:Int) (e:J0) (g h:Int) (j k m p:J0) (o:Int×Int×J0):X×Env×Store:=((.exit 0),Qa z36.l0ash [.i a,.n b,.n c,.i o.1,.li e,.i g,.i o.2.1,.li j,.li k,.li o.2.2,.li p])
def z36.l0apack:List Leaf->Option LPack
 |[.i a,.n b,.n c,.i d,.li e,.i g,.i h,.li j,.li k,.li m,.li o]=>some (.one _ (z36.l0a a b c e g (d,h,m)) (z36.l0aout0 a b c d e g h j k m o))
 |_=>none
def z36.l0sh:Env×Store:=(.undef :: .undef::(.ptr 0 0) :: .undef::(.ptr 2 0)::(.sref 3 0)::un 12 ((.ints false .u64 [])::(.int .i64 0)::(.int .i64 0)::un 13 []),[(.cells 37 [(.ints false .u64 [])]),.dead,(.cells 37 [(.ints false .u64 [])]),(.arr 0 false 183 (.ints false .u64 []))])
def z36.l0out0 (a:J0) (b c:Int) (d e g:J0) (o:Int×J0):X×Env×Store:=((.exit 0),Qa z36.l0sh [.li a,.i b,.i o.1,.li d,.li e,.li o.2])
def z36.l0pack:List Leaf->Option LPack
 |[.li a,.i b,.i c,.li d,.li e,.li g]=>some (.one _ (z36.l0 a b d (c,g)) (z36.l0out0 a b c d e g))
 |_=>none
def z36.C:Ctx where
 T:=tab
 draws:=λf i=>match f,i with|206,5=>([(26,[(2,0)],0),(27,[(7,0)],0),(28,[(5,0)],0),(29,[(6,0)],0),(30,[(27,3),(28,4)],12),(31,[(25,1),(26,2),(29,5)],31)],2113929216)|_,_=>([],0)
 call:=Qh [(145,z21.pack),(102,z0.pack),(104,z14.pack)]
 inl:=λg=>match g with|237=>some (ifun Tryz.f237)|_=>none
 keep:=λf i=>match f,i with|237,0=>([1,2,3,6,13,14,15],List.range 64,[])|206,0=>([2,4,5,18,19,20],[0,2,3],[])|_,_=>([],[],[])
 keepR:=λf i=>match f,i with|237,0=>([],List.range 64,[])|206,0=>([4],[0,2,3],[4])|_,_=>([],[],[])
 L:=λf i b st=>match f,i,b with|237,0,4=>(matchSt z36.l0ash st).bind z36.l0apack|206,0,0=>(matchSt z36.l0sh st).bind z36.l0pack|_,_,_=>none
theorem z36.l0a_link (R:Type) (k:Env×Store->Option R) (d:X×Env×Store->Option R) (a:Int) (b c:Nat) (e:Int) (g:J0) (h j:Int) (m p q r:J0) :
  z36.C.loopPI (z36.C.inlK 0) 237 0 4 (Qf 0 (ifun Tryz.f237).body) 5 k d (Qa z36.l0ash [.i a,.n b,.n c,.i e,.li g,.i h,.i j,.li m,.li p,.li q,.li r]) =
  z36.l0aP a b c g h (λx'=>k (Qa z36.l0ash [.i a,.n b,.n c,.i x'.1,.li g,.i h,.i x'.2.1,.li m,.li p,.li x'.2.2,.li r])) (λo=>d (z36.l0aout0 a b c e g h j m p q r o)) (e,j,q):=by kernel_rfl
theorem z36.l0_link (R:Type) (k:Env×Store->Option R) (d:X×Env×Store->Option R) (a:J0) (b c:Int) (e g h:J0) :
  z36.C.loopP 206 0 (Qf 0 (ifun Tryz.f206).body) 4 k d (Qa z36.l0sh [.li a,.i b,.i c,.li e,.li g,.li h]) =
  z36.l0P a b e (λx'=>k (Qa z36.l0sh [.li a,.i b,.i x'.1,.li e,.li g,.li x'.2])) (λo=>d (z36.l0out0 a b c e g h o)) (c,h):=by kernel_rfl
theorem z36.link (a0 a1:J0):z36.C.evTop 206 (ifun Tryz.f206) [(.agg [(.ints false .u64 a0)]),(.agg [(.ints false .u64 a1)])] z14.dec=z36.F a0 a1:=by kernel_rfl
def z38.C:Ctx where
 T:=tab
 call:=Qh [(161,z33.pack),(162,z37.pack),(60,z8.pack),(52,z30.pack)]
def z38.dec:V->Option (J0×Bool×Int)
 |(.tup [(.agg [(.ints _ .u64 x0),(.bool x1)]),(.int .i64 x2)])=>some (x0,x1,x2)
 |_=>none
theorem z38.link (a0:J1):z38.C.evTop 117 (ifun Tryz.f117) [(.str a0)] z38.dec=z38.F a0:=by kernel_rfl
def z39.l0sh:Env×Store:=(.undef :: .undef::(.ptr 0 0)::(.ptr 1 0)::(.ptr 2 0)::(.bool false)::(.sref 3 0)::(.int .u64 0)::un 11 ((.int .i64 0)::(.int .i64 0)::un 21 []),[(.cells 37 [(.ints false .u64 [])]),(.cells 37 [(.ints false .u64 [])]),(.cells 37 [(.ints false .u64 [])]),(.arr 0 false 183 (.ints false .u64 []))])
def z39.l0out0 (a:Bool) (c d e:Int) (g h j k:J0) (o:Int×Int×J0):X×Env×Store:=((.exit 0),Qa z39.l0sh [.b a,.i o.1,.i d,.i o.2.1,.li g,.li h,.li j,.li o.2.2])
def z39.l0pack:List Leaf->Option LPack
 |[.b a,.i c,.i d,.i e,.li g,.li h,.li j,.li k]=>some (.one _ (z39.l0 d g h (c,e,k)) (z39.l0out0 a c d e g h j k))
 |_=>none
def z39.C:Ctx where
 T:=tab
 draws:=λf i=>match f,i with|54,8=>([(25,[(6,0)],0),(26,[(8,0)],0),(27,[(2,0)],0),(28,[(26,3)],4),(29,[(8,0)],0),(30,[(27,4),(28,5)],28),(31,[(29,6)],60),(32,[(3,0)],0),(33,[(8,0)],0),(34,[(31,8),(32,9)],384),(35,[(7,18)],0),(36,[(30,7),(33,10),(34,11)],2044),(24,[(35,12)],4092),(37,[(23,13)],8188),(38,[(23,13)],8188),(39,[(24,1),(25,2)],16383),(0,[(38,16),(36,14)],49151),(8,[(37,15)],131071)],549747425408)|_,_=>([],0)
 call:=Qh [(105,z13.pack),(103,z34.pack),(106,z1.pack),(104,z14.pack)]
 keep:=λf i=>match f,i with|54,0=>([2,3,4,5,6,7,19,20],[0,1,2,3],[])|_,_=>([],[],[])
 keepR:=λf i=>match f,i with|54,0=>([4,5],[0,1,2,3],[4,5])|_,_=>([],[],[])
 L:=λf i b st=>match f,i,b with|54,0,0=>(matchSt z39.l0sh st).bind z39.l0pack|_,_,_=>none
def z39.dec:V->Option (J0×Bool)
 |(.tup [(.agg [(.ints _ .u64 x0)]),(.bool x1)])=>some (x0,x1)
 |_=>none
theorem z39.l0_link (R:Type) (k:Env×Store->Option R) (d:X×Env×Store->Option R) (a:Bool) (c e g:Int) (h j m n:J0) :
  z39.C.loopP 54 0 (Qf 0 (ifun Tryz.f54).body) 4 k d (Qa z39.l0sh [.b a,.i c,.i e,.i g,.li h,.li j,.li m,.li n]) =
  z39.l0P e h j (λx'=>k (Qa z39.l0sh [.b a,.i x'.1,.i e,.i x'.2.1,.li h,.li j,.li m,.li x'.2.2])) (λo=>d (z39.l0out0 a c e g h j m n o)) (c,g,n):=by kernel_rfl
theorem z39.link (a0 a1:J0):z39.C.evTop 54 (ifun Tryz.f54) [(.agg [(.ints false .u64 a0)]),(.agg [(.ints false .u64 a1)])] z39.dec=z39.F a0 a1:=by kernel_rfl
def z41.C:Ctx where
 T:=tab
 call:=Qh [(52,z30.pack)]
def z41.dec:V->Option (J0×Bool)
 |(.agg [(.ints _ .u64 x0),(.bool x1)])=>some (x0,x1)
 |_=>none
theorem z41.link (a0:J0) (a1:Bool):z41.C.evTop 66 (ifun Tryz.f66) [(.agg [(.ints false .u64 a0),(.bool a1)])] z41.dec=z41.F a0 a1:=by kernel_rfl
def z42.C:Ctx where
 T:=tab
 draws:=λf i=>match f,i with|194,1=>([(6,[(2,0)],0),(7,[(3,0)],0),(8,[(6,2)],2),(9,[(5,1),(7,3)],7),(0,[(4,0),(8,4)],15)],480)|_,_=>([],0)
 call:=Qh [(66,z41.pack),(12,z40.pack)]
theorem z42.link (a0:J0) (a1:Bool) (a2:J0) (a3:Bool):z42.C.evTop 194 (ifun Tryz.f194) [(.agg [(.ints false .u64 a0),(.bool a1)]),(.agg [(.ints false .u64 a2),(.bool a3)])] z41.dec=z42.F a0 a1 a2 a3:=by kernel_rfl
def z44.l0sh:Env×Store:=(.undef::(.int .i64 0)::(.ptr 0 0) :: .undef::(.ptr 1 0)::(.ptr 2 0)::un 18 [],[(.cells 37 [(.ints false .u64 [])]),(.cells 37 [(.ints false .u64 [])]),(.cells 37 [(.ints false .u64 [])])])
def z44.l0out0 (a:Int) (b c d:J0) (o:Int×J0×J0):X×Env×Store:=((.exit 0),Qa z44.l0sh [.i o.1,.li o.2.1,.li c,.li o.2.2])
def z44.l0pack:List Leaf->Option LPack
 |[.i a,.li b,.li c,.li d]=>some (.one _ (z44.l0 (a,b,d)) (z44.l0out0 a b c d))
 |_=>none
def z44.C:Ctx where
 T:=tab
 call:=Qh [(108,z15.pack),(206,z36.pack)]
 keep:=λf i=>match f,i with|257,0=>([1,2,4,5],[0,1,2],[])|_,_=>([],[],[])
 keepR:=λf i=>match f,i with|257,0=>([4],[0,1,2],[4])|_,_=>([],[],[])
 L:=λf i b st=>match f,i,b with|257,0,0=>(matchSt z44.l0sh st).bind z44.l0pack|_,_,_=>none
theorem z44.l0_link (R:Type) (k:Env×Store->Option R) (d:X×Env×Store->Option R) (a:Int) (b c e:J0) :
  z44.C.loopP 257 0 (Qf 0 (ifun Tryz.f257).body) 3 k d (Qa z44.l0sh [.i a,.li b,.li c,.li e]) =
  z44.l0P (λx'=>k (Qa z44.l0sh [.i x'.1,.li x'.2.1,.li c,.li x'.2.2])) (λo=>d (z44.l0out0 a b c e o)) (a,b,e):=by kernel_rfl
theorem z44.link (a0:J0) (a1:Int):z44.C.evTop 257 (ifun Tryz.f257) [(.agg [(.ints false .u64 a0)]),(.int .i64 a1)] z14.dec=z44.F a0 a1:=by kernel_rfl
def z50.C:Ctx where
 T:=tab
 draws:=λf i=>match f,i with|239,3=>([(14,[(0,0)],0),(15,[(7,0)],0),(16,[(13,1),(14,2)],3),(17,[(0,0)],0),(18,[(7,0)],0),(19,[(1,0)],0),(20,[(18,6)],32),(21,[(17,5),(19,7)],112),(22,[(16,4),(20,8)],248),(5,[(15,3)],7),(6,[(21,9)],1023),(7,[],2047)],4186224)|_,_=>([],0)
 call:=Qh [(161,z33.pack),(212,z49.pack),(205,z3.pack),(163,z4.pack),(162,z37.pack),(52,z30.pack),(230,z2.pack)]
 inl:=λg=>match g with|211=>some (ifun Tryz.f211)|239=>some (ifun Tryz.f239)|148=>some (ifun Tryz.f148)|190=>some (ifun Tryz.f190)|_=>none
 rank:=λg=>match g with|211=>3|239=>2|148=>1|_=>0
def z50.dec:V->Option (J0×Bool×Int×Int)
 |(.tup [(.agg [(.ints _ .u64 x0),(.bool x1),(.int .i64 x2)]),(.int .i64 x3)])=>some (x0,x1,x2,x3)
 |_=>none
theorem z50.link (a0:J1):z50.C.evTop 171 (ifun Tryz.f171) [(.str a0)] z50.dec=z50.F a0:=by kernel_rfl
def z51.C:Ctx where
 T:=tab
theorem z51.link (a0:Int):z51.C.evTop 224 (ifun Tryz.f224) [(.int .i64 a0)] z8.dec=z51.F a0:=by kernel_rfl
def z60.C:Ctx where
 T:=tab
theorem z60.link (a0:J0) (a1:Bool):z60.C.evTop 254 (ifun Tryz.f254) [(.agg [(.ints false .u64 a0),(.bool a1)])] z14.dec=z60.F a0 a1:=by kernel_rfl
def z68.C:Ctx where
 T:=tab
def z68.dec:V->Option (J0×Bool×J0)
 |(.agg [(.ints _ .u64 x0),(.bool x1),(.ints _ .u64 x2)])=>some (x0,x1,x2)
 |_=>none
theorem z68.link (a0:J0) (a1:Bool):z68.C.evTop 223 (ifun Tryz.f223) [(.agg [(.ints false .u64 a0),(.bool a1)])] z68.dec=z68.F a0 a1:=by kernel_rfl
def z69.C:Ctx where
 T:=tab
 call:=Qh [(171,z50.pack),(219,z55.pack),(180,z52.pack),(215,z54.pack),(16,z29.pack),(220,z59.pack),(214,z53.pack),(221,z64.pack),(223,z68.pack),(222,z67.pack)]
def z69.dec:V->Option (J0×Bool×J0×Int)
 |(.tup [(.agg [(.ints _ .u64 x0),(.bool x1),(.ints _ .u64 x2)]),(.int .i64 x3)])=>some (x0,x1,x2,x3)
 |_=>none
theorem z69.link (a0:J1):z69.C.evTop 177 (ifun Tryz.f177) [(.str a0)] z69.dec=z69.F a0:=by kernel_rfl
def z72.C:Ctx where
 T:=tab
 call:=Qh [(134,z70.pack),(174,z71.pack),(13,z28.pack)]
 prim:=λg=>match g with|121=>some (blkP [139] z7.pk)|_=>none
def z72.dec:V->J2->Option (Int×J2×Int×Int×Int×Int×Int×Int×J1)
 |(.int .i64 x0),[[(.recs _ 3 x1),(.int .i64 x2),(.int .i64 x3)],[(.int .i64 x4),(.int .i64 x5),(.int .i64 x6),(.int .i64 x7),(.str x8)]]=>some (x0,x1,x2,x3,x4,x5,x6,x7,x8)
 |_,_=>none
theorem z72.link (a0:J2) (a1 a2 a3 a4 a5 a6:Int) (a7:J1):z72.C.evBlk 125 (ifun Tryz.f125) [139,70] [[(.recs false 3 a0),(.int .i64 a1),(.int .i64 a2)],[(.int .i64 a3),(.int .i64 a4),(.int .i64 a5),(.int .i64 a6),(.str a7)]] [] z72.dec=z72.F a0 a1 a2 a3 a4 a5 a6 a7:=by kernel_rfl
def z78.C:Ctx where
 T:=tab
 call:=Qh [(216,z77.pack)]
theorem z78.link (a0:Int):z78.C.evTop 217 (ifun Tryz.f217) [(.int .i64 a0)] z8.dec=z78.F a0:=by kernel_rfl
def z80.C:Ctx where
 T:=tab
 draws:=λf i=>match f,i with|133,1=>([(4,[(1,0)],0),(5,[(3,1)],1),(6,[(4,2)],3),(7,[(5,3)],7),(8,[(1,0),(6,4)],15),(9,[(7,5),(6,4)],31),(10,[(1,0),(6,4)],15),(11,[(9,7),(6,4)],79),(12,[(1,0),(6,4)],15),(13,[(11,9),(6,4)],271),(14,[(10,8),(12,10),(6,4)],975),(15,[(8,6),(13,11),(6,4)],2047),(16,[(6,4),(14,12)],4095)],65528)|_,_=>([],0)
 call:=Qh [(175,z79.pack)]
theorem z80.link (a0 a1 a2:Int):z80.C.evTop 133 (ifun Tryz.f133) [(.agg [(.int .i64 a0),(.int .i64 a1),(.int .i64 a2)])] z13.dec=z80.F a0 a1 a2:=by kernel_rfl
def z91.l0sh:Env×Store:=((.str ([]:J1)) :: .undef::(.bool false)::un 5 ((.ptr 0 0)::un 25 []),[(.siter ([]:J1) 0)])
def z91.l0so0:Env×Store:=(.undef :: .undef::(.bool false)::un 31 [],[(.siter ([]:J1) 0)])
def z91.l0out0 (a:J1) (c:Bool) (d:J1) (e:Nat) (o:Bool×Nat):X×Env×Store:=(.ret,Qa z91.l0so0 [.b o.1,.s d,.n o.2])
def z91.l0out1 (a:J1) (c:Bool) (d:J1) (e o:Nat):X×Env×Store:=((.exit 0),Qa z91.l0sh [.s a,.b c,.s d,.n o])
def z91.l0pack:List Leaf->Option LPack
 |[.s a,.b c,.s d,.n e]=>some (.two _ _ (z91.l0 a d e) (z91.l0out0 a c d e) (z91.l0out1 a c d e))
 |_=>none
def z91.C:Ctx where
 T:=tab
 draws:=λf i=>match f,i with|170,6=>([(14,[(4,0)],0),(15,[(13,1)],1),(16,[(0,0)],0),(17,[(3,0)],0),(18,[(15,3),(16,4)],12),(19,[(17,5)],28),(20,[(18,6)],63),(21,[(14,2),(19,7)],127),(22,[(20,8)],255),(23,[(4,0),(21,9)],511),(24,[(22,10),(21,9)],1023),(25,[(23,11),(21,9)],2047),(26,[(24,12),(21,9)],4095),(27,[(4,0),(25,13)],8191),(28,[(26,14),(25,13)],16383),(29,[(0,0),(25,13)],8191),(30,[(3,0),(25,13)],8191),(31,[(28,16),(29,17),(25,13)],106495),(32,[(27,15),(30,18),(25,13)],262143),(33,[(25,13),(31,19),(21,9)],524287),(34,[(21,9),(32,20)],1048575)],17179860992)|_,_=>([],0)
 call:=Qh [(168,z88.pack)]
 keep:=λf i=>match f,i with|170,0=>([0,2,8],[0],[])|_,_=>([],[],[])
 keepR:=λf i=>match f,i with|170,0=>([2],[0],[2])|_,_=>([],[],[])
 L:=λf i b st=>match f,i,b with|170,0,0=>(matchSt z91.l0sh st).bind z91.l0pack|_,_,_=>none
theorem z91.l0_link (R:Type) (k:Env×Store->Option R) (d:X×Env×Store->Option R) (a:J1) (c:Bool) (e:J1) (g:Nat) :
  z91.C.loopP 170 0 (Qf 0 (ifun Tryz.f170).body) 1 k d (Qa z91.l0sh [.s a,.b c,.s e,.n g]) =
  z91.l0P a e (λx'=>k (Qa z91.l0sh [.s a,.b c,.s e,.n x'])) (λo=>match o with | .inl o=>d (z91.l0out0 a c e g o) | .inr o=>d (z91.l0out1 a c e g o)) g:=by kernel_rfl
theorem z91.link (a0:J1):z91.C.evTop 170 (ifun Tryz.f170) [(.str a0)] z8.dec=z91.F a0:=by kernel_rfl
def z101.C:Ctx where
 T:=tab
 draws:=λf i=>match f,i with|181,5=>([(32,[(3,9)],0),(33,[(5,0)],0),(34,[(31,1),(32,2)],3),(35,[(33,3)],7),(36,[(3,9)],0),(37,[(5,0)],0),(38,[(35,5),(36,6)],48),(39,[(34,4),(37,7)],127),(4,[(38,8)],255)],547608330248)|_,_=>([],0)
 call:=Qh [(13,z28.pack),(161,z33.pack),(36,z5.pack)]
theorem z101.link (a0:J0) (a1:Bool) (a2:Int):z101.C.evTop 181 (ifun Tryz.f181) [(.agg [(.ints false .u64 a0),(.bool a1),(.int .i64 a2)])] z28.dec=z101.F a0 a1 a2:=by kernel_rfl
def z105.C:Ctx where
 T:=tab
 call:=Qh [(24,z97.pack),(31,z104.pack)]
theorem z105.link:z105.C.evTop 26 (ifun Tryz.f26) [] z8.dec=z105.F:=by kernel_rfl
def z113.l0sh:Env×Store:=((.int .i64 0) :: .undef::(.sref 0 0)::(.sref 1 0)::un 10 [],[(.arr 0 true 3 (.ints false .i64 [])),(.arr 0 true 3 (.ints false .i64 []))])
def z113.l0out0 (a:Int) (b c:J0) (o:Int×J0):X×Env×Store:=((.exit 0),Qa z113.l0sh [.i o.1,.li b,.li o.2])
def z113.l0pack:List Leaf->Option LPack
 |[.i a,.li b,.li c]=>some (.one _ (z113.l0 (a,c)) (z113.l0out0 a b c))
 |_=>none
def z113.C:Ctx where
 T:=tab
 keep:=λf i=>match f,i with|97,0=>([0,2,3],[0,1],[])|_,_=>([],[],[])
 keepR:=λf i=>match f,i with|97,0=>([2],[0,1],[2])|_,_=>([],[],[])
 L:=λf i b st=>match f,i,b with|97,0,0=>(matchSt z113.l0sh st).bind z113.l0pack|_,_,_=>none
def z113.dec:V->Option (J0)
 |(.ints _ .i64 x0)=>some x0
 |_=>none
theorem z113.l0_link (R:Type) (k:Env×Store->Option R) (d:X×Env×Store->Option R) (a:Int) (b c:J0) :
  z113.C.loopP 97 0 (Qf 0 (ifun Tryz.f97).body) 2 k d (Qa z113.l0sh [.i a,.li b,.li c]) =
  z113.l0P (λx'=>k (Qa z113.l0sh [.i x'.1,.li b,.li x'.2])) (λo=>d (z113.l0out0 a b c o)) (a,c):=by kernel_rfl
theorem z113.link (a0:Int):z113.C.evTop 97 (ifun Tryz.f97) [(.int .i64 a0)] z113.dec=z113.F a0:=by kernel_rfl
def z119.C:Ctx where
 T:=tab
 call:=Qh [(139,z118.pack)]
theorem z119.link (a0 a1 a2:Int):z119.C.evTop 83 (ifun Tryz.f83) [(.agg [(.int .i64 a0),(.int .i64 a1),(.int .i64 a2)])] z28.dec=z119.F a0 a1 a2:=by kernel_rfl
def z127.C:Ctx where
 T:=tab
theorem z127.link (a0:J0) (a1:Int):z127.C.evTop 159 (ifun Tryz.f159) [(.ints false .i64 a0),(.int .i64 a1)] z13.dec=z127.F a0 a1:=by kernel_rfl
def z135.C:Ctx where
 T:=tab
 call:=Qh [(48,z114.pack),(140,z124.pack),(141,z125.pack),(69,z112.pack),(142,z134.pack)]
def z135.dec:V->Option (J0×Bool×Int)
 |(.tup [(.agg [(.ints _ .i64 x0),(.bool x1)]),(.int .i64 x2)])=>some (x0,x1,x2)
 |_=>none
theorem z135.link (a0:J1):z135.C.evTop 84 (ifun Tryz.f84) [(.str a0)] z135.dec=z135.F a0:=by kernel_rfl
def z137.C:Ctx where
 T:=tab
 call:=Qh [(143,z136.pack)]
theorem z137.link (a0:J0) (a1:Bool):z137.C.evTop 85 (ifun Tryz.f85) [(.agg [(.ints false .i64 a0),(.bool a1)])] z28.dec=z137.F a0 a1:=by kernel_rfl
def z138.l0sh:Env×Store:=((.recs false 5 []) :: .undef::(.str ([]:J1))::(.strs false [])::(.str ([]:J1))::(.int .i64 0)::un 76 [],[])
def z138.l0out0 (a:J2) (b:J1) (c:List J1) (d:J1) (e:Int) (o:J1×Int):X×Env×Store:=((.exit 0),Qa z138.l0sh [.lr a,.s b,.ls c,.s o.1,.i o.2])
def z138.l0pack:List Leaf->Option LPack
 |[.lr a,.s b,.ls c,.s d,.i e]=>some (.one _ (z138.l0 a c (d,e)) (z138.l0out0 a b c d e))
 |_=>none
def z138.C:Ctx where
 T:=tab
 call:=Qh [(83,z119.pack),(84,z135.pack),(85,z137.pack)]
 keep:=λf i=>match f,i with|33,0=>([0,2,3,4,5],[],[])|_,_=>([],[],[])
 keepR:=λf i=>match f,i with|33,0=>([2],[],[2])|_,_=>([],[],[])
 L:=λf i b st=>match f,i,b with|33,0,0=>(matchSt z138.l0sh st).bind z138.l0pack|_,_,_=>none
theorem z138.l0_link (R:Type) (k:Env×Store->Option R) (d:X×Env×Store->Option R) (a:J2) (b:J1) (c:List J1) (e:J1) (g:Int) :
  z138.C.loopP 33 0 (Qf 0 (ifun Tryz.f33).body) 0 k d (Qa z138.l0sh [.lr a,.s b,.ls c,.s e,.i g]) =
  z138.l0P a c (λx'=>k (Qa z138.l0sh [.lr a,.s b,.ls c,.s x'.1,.i x'.2])) (λo=>d (z138.l0out0 a b c e g o)) (e,g):=by kernel_rfl
theorem z138.link (a0:J2):z138.C.evTop 33 (ifun Tryz.f33) [(.recs false 5 a0)] z28.dec=z138.F a0:=by kernel_rfl
def z140.l0sh:Env×Store:=(un 4 ((.sref 0 0) :: .undef :: .undef::(.sref 1 0)::(.int .i64 0)::un 39 []),[(.arr 0 true 70 (.recs false 5 [])),(.arr 0 false 70 (.recs false 5 []))])
def z140.l0out0 (a:Int) (b c:J2) (o:Int×J2):X×Env×Store:=((.exit 0),Qa z140.l0sh [.i o.1,.lr b,.lr o.2])
def z140.l0pack:List Leaf->Option LPack
 |[.i a,.lr b,.lr c]=>some (.one _ (z140.l0 (a,c)) (z140.l0out0 a b c))
 |_=>none
def z140.C:Ctx where
 T:=tab
 draws:=λf i=>match f,i with|34,9=>([(39,[(8,10)],0),(40,[(7,0)],0),(41,[(8,10)],0),(42,[(39,2),(40,3)],6),(43,[(7,0)],0),(44,[(8,10)],0),(45,[(42,5),(43,6)],48),(46,[(41,4),(44,7)],126),(47,[(38,1),(45,8)],255),(9,[(46,9)],511)],140462610448640)|_,_=>([],0)
 call:=Qh [(86,z139.pack)]
 keep:=λf i=>match f,i with|34,0=>([4,7,8],[0,1],[])|_,_=>([],[],[])
 keepR:=λf i=>match f,i with|34,0=>([4],[0,1],[4])|_,_=>([],[],[])
 L:=λf i b st=>match f,i,b with|34,0,0=>(matchSt z140.l0sh st).bind z140.l0pack|_,_,_=>none
def z140.dec:V->Option (J2)
 |(.recs _ 5 x0)=>some x0
 |_=>none
theorem z140.l0_link (R:Type) (k:Env×Store->Option R) (d:X×Env×Store->Option R) (a:Int) (b c:J2) :
  z140.C.loopP 34 0 (Qf 0 (ifun Tryz.f34).body) 2 k d (Qa z140.l0sh [.i a,.lr b,.lr c]) =
  z140.l0P (λx'=>k (Qa z140.l0sh [.i x'.1,.lr b,.lr x'.2])) (λo=>d (z140.l0out0 a b c o)) (a,c):=by kernel_rfl
theorem z140.link (a0:J2) (a1:Int):z140.C.evTop 34 (ifun Tryz.f34) [(.recs false 5 a0),(.int .i64 a1)] z140.dec=z140.F a0 a1:=by kernel_rfl
def z141.C:Ctx where
 T:=tab
theorem z141.link (a0 a1:J1):z141.C.evTop 92 (ifun Tryz.f92) [(.str a0),(.str a1)] z8.dec=z141.F a0 a1:=by kernel_rfl
def z142.C:Ctx where
 T:=tab
 call:=Qh [(92,z141.pack)]
theorem z142.link (a0 a1:J1):z142.C.evTop 87 (ifun Tryz.f87) [(.str a0),(.str a1)] z28.dec=z142.F a0 a1:=by kernel_rfl
end
noncomputable section
def z10.C:Ctx where
 T:=tab
 call:=Qh [(195,z9.pack)]
theorem z10.link (a0 a1:Int):z10.C.evTop 153 (ifun Tryz.f153) [(.int .i64 a0),(.int .i64 a1)] z13.dec=z10.F a0 a1:=by kernel_rfl
def z15.C:Ctx where
 T:=tab
 call:=Qh [(104,z14.pack)]
 prim:=λg=>match g with|157=>some (cloneP (.ints true .u64 []) 183 8)|_=>none
theorem z15.link (a0:J0):z15.C.evTop 108 (ifun Tryz.f108) [(.ints false .u64 a0)] z14.dec=z15.F a0:=by kernel_rfl
def z19.l0sh:Env×Store:=(.undef :: .undef::(.int .u64 0)::un 3 ((.int .u64 0)::(.int .u64 0)::(.int .u64 0)::(.int .u64 0)::(.int .u64 0)::(.int .u64 0) :: .undef::(.int .u64 0)::(.int .u64 0)::(.int .u64 0)::(.int .u64 0)::un 118 []),[])
def z19.l0out0 (a b c d e g h j k m n:Int) (o:Int×Int):X×Env×Store:=((.exit 0),Qa z19.l0sh [.i a,.i b,.i c,.i d,.i e,.i g,.i h,.i j,.i k,.i o.1,.i o.2])
def z19.l0pack:List Leaf->Option LPack
 |[.i a,.i b,.i c,.i d,.i e,.i g,.i h,.i j,.i k,.i m,.i n]=>some (.one _ (z19.l0 e g j (m,n)) (z19.l0out0 a b c d e g h j k m n))
 |_=>none
def z19.l2sh:Env×Store:=(.undef :: .undef::(.int .u64 0)::un 3 ((.int .u64 0)::(.int .u64 0)::(.int .u64 0)::(.int .u64 0)::(.int .u64 0)::un 3 ((.int .u64 0)::(.int .u64 0)::(.int .u64 0)::(.int .u64 0)::(.int .u64 0)::un 116 [])),[])
def z19.l2out0 (a b c d e g h j k m n:Int) (o:Int×Int):X×Env×Store:=((.exit 2),Qa z19.l2sh [.i a,.i b,.i c,.i d,.i e,.i g,.i h,.i j,.i o.1,.i m,.i o.2])
def z19.l2pack:List Leaf->Option LPack
 |[.i a,.i b,.i c,.i d,.i e,.i g,.i h,.i j,.i k,.i m,.i n]=>some (.one _ (z19.l2 e g h (k,n)) (z19.l2out0 a b c d e g h j k m n))
 |_=>none
def z19.C:Ctx where
 T:=tab
 draws:=λf i=>match f,i with|197,6=>([(29,[(1,0)],0),(30,[(2,0)],0),(31,[(28,1),(29,2)],3),(32,[(1,0)],0),(33,[(2,0)],0),(34,[(31,4),(32,5)],24),(7,[(30,3)],7),(8,[(33,6)],127)],16911433920)|_,_=>([],0)
 call:=Qh [(198,z18.pack)]
 keep:=λf i=>match f,i with|197,0=>([2,6,7,8,9,10,11,13,14,15,16,105,106,107,108,109,110,111,112],[],[])|197,2=>([2,6,7,8,9,10,14,15,16,17,18],[],[])|_,_=>([],[],[])
 keepR:=λf i=>match f,i with|197,0=>([6,7],[],[6,7])|197,2=>([6,7],[],[6,7])|_,_=>([],[],[])
 L:=λf i b st=>match f,i,b with|197,0,0=>(matchSt z19.l0sh st).bind z19.l0pack|197,2,0=>(matchSt z19.l2sh st).bind z19.l2pack|_,_,_=>none
def z19.dec:V->Option (Int×Int)
 |(.tup [(.int .u64 x0),(.int .u64 x1)])=>some (x0,x1)
 |_=>none
theorem z19.l0_link (R:Type) (k:Env×Store->Option R) (d:X×Env×Store->Option R) (a b c e g h j m n p q:Int) :
  z19.C.loopP 197 0 (Qf 0 (ifun Tryz.f197).body) 0 k d (Qa z19.l0sh [.i a,.i b,.i c,.i e,.i g,.i h,.i j,.i m,.i n,.i p,.i q]) =
  z19.l0P g h m (λx'=>k (Qa z19.l0sh [.i a,.i b,.i c,.i e,.i g,.i h,.i j,.i m,.i n,.i x'.1,.i x'.2])) (λo=>d (z19.l0out0 a b c e g h j m n p q o)) (p,q):=by kernel_rfl
theorem z19.l2_link (R:Type) (k:Env×Store->Option R) (d:X×Env×Store->Option R) (a b c e g h j m n p q:Int) :
  z19.C.loopP 197 2 (Qf 2 (ifun Tryz.f197).body) 0 k d (Qa z19.l2sh [.i a,.i b,.i c,.i e,.i g,.i h,.i j,.i m,.i n,.i p,.i q]) =
  z19.l2P g h j (λx'=>k (Qa z19.l2sh [.i a,.i b,.i c,.i e,.i g,.i h,.i j,.i m,.i x'.1,.i p,.i x'.2])) (λo=>d (z19.l2out0 a b c e g h j m n p q o)) (n,q):=by kernel_rfl
theorem z19.link (a0 a1 a2:Int):z19.C.evTop 197 (ifun Tryz.f197) [(.int .u64 a0),(.int .u64 a1),(.int .u64 a2)] z19.dec=z19.F a0 a1 a2:=by kernel_rfl
def z20.l0sh:Env×Store:=((.ints false .u64 [])::(.int .u64 0) :: .undef :: .undef::(.sref 0 0)::(.int .u64 0)::(.sref 1 0)::(.int .u64 0)::(.int .i64 0)::un 25 [],[(.arr 0 true 183 (.ints false .u64 [])),(.arr 0 false 183 (.ints false .u64 []))])
def z20.l0out0 (a:J0) (b c d e:Int) (g h:J0) (o:Int×Int×J0):X×Env×Store:=((.exit 0),Qa z20.l0sh [.li a,.i b,.i c,.i o.1,.i o.2.1,.li g,.li o.2.2])
def z20.l0pack:List Leaf->Option LPack
 |[.li a,.i b,.i c,.i d,.i e,.li g,.li h]=>some (.one _ (z20.l0 a b (d,e,h)) (z20.l0out0 a b c d e g h))
 |_=>none
def z20.C:Ctx where
 T:=tab
 call:=Qh [(197,z19.pack)]
 keep:=λf i=>match f,i with|155,0=>([0,1,4,5,6,7,8],[0,1],[])|_,_=>([],[],[])
 keepR:=λf i=>match f,i with|155,0=>([4,5],[0,1],[4,5])|_,_=>([],[],[])
 L:=λf i b st=>match f,i,b with|155,0,0=>(matchSt z20.l0sh st).bind z20.l0pack|_,_,_=>none
def z20.dec:V->Option (J0×Int)
 |(.tup [(.ints _ .u64 x0),(.int .u64 x1)])=>some (x0,x1)
 |_=>none
theorem z20.l0_link (R:Type) (k:Env×Store->Option R) (d:X×Env×Store->Option R) (a:J0) (b c e g:Int) (h j:J0) :
  z20.C.loopP 155 0 (Qf 0 (ifun Tryz.f155).body) 2 k d (Qa z20.l0sh [.li a,.i b,.i c,.i e,.i g,.li h,.li j]) =
  z20.l0P a b (λx'=>k (Qa z20.l0sh [.li a,.i b,.i c,.i x'.1,.i x'.2.1,.li h,.li x'.2.2])) (λo=>d (z20.l0out0 a b c e g h j o)) (e,g,j):=by kernel_rfl
theorem z20.link (a0:J0) (a1:Int):z20.C.evTop 155 (ifun Tryz.f155) [(.ints false .u64 a0),(.int .u64 a1)] z20.dec=z20.F a0 a1:=by kernel_rfl
def z23.l0sh:Env×Store:=(un 4 ((.ptr 1 0)::(.int .i64 0)::(.sview 4 0 0 0)::(.int .u64 0)::un 17 ((.int .i64 0)::(.int .i64 0)::un 31 [])),[.dead,(.cells 37 [(.ints false .u64 [])]),.dead,.dead,(.arr 0 true 183 (.ints false .u64 []))])
def z23.l0out0 (a:Int) (b c:Nat) (d e g:Int) (h j:J0) (o:Int×J0):X×Env×Store:=((.exit 0),Qa z23.l0sh [.i a,.n b,.n c,.i d,.i e,.i o.1,.li h,.li o.2])
def z23.l0pack:List Leaf->Option LPack
 |[.i a,.n b,.n c,.i d,.i e,.i g,.li h,.li j]=>some (.one _ (z23.l0 b c d e (g,j)) (z23.l0out0 a b c d e g h j))
 |_=>none
def z23.C:Ctx where
 T:=tab
 draws:=λf i=>match f,i with|203,11=>([(42,[(6,0)],0),(43,[(8,0)],0),(44,[(41,1),(42,2)],3),(45,[(43,3)],7),(46,[(6,0)],0),(47,[(8,0)],0),(48,[(46,6)],32),(49,[(45,5),(47,7)],112),(50,[(48,8)],240),(51,[(7,0)],0),(52,[(50,10)],512),(53,[(49,9),(51,11)],2032),(54,[(44,4),(52,12)],4095),(55,[(41,1),(42,2)],8191),(0,[(54,14),(53,13)],16383)],36026597995708416)|_,_=>([],0)
 call:=Qh [(233,z22.pack),(108,z15.pack)]
 inl:=λg=>match g with|109=>some (ifun Tryz.f109)|_=>none
 rank:=λg=>match g with|109=>1|_=>0
 prim:=λg=>match g with|157=>some (cloneP (.ints true .u64 []) 183 8)|_=>none
 keep:=λf i=>match f,i with|203,0=>([4,5,6,7,25,26],[1,4],[])|_,_=>([],[],[])
 keepR:=λf i=>match f,i with|203,0=>([4,5],[1,4],[4,5])|_,_=>([],[],[])
 L:=λf i b st=>match f,i,b with|203,0,0=>(matchSt z23.l0sh st).bind z23.l0pack|_,_,_=>none
def z23.dec:V->Option (J0×Int)
 |(.tup [(.agg [(.ints _ .u64 x0)]),(.int .i64 x1)])=>some (x0,x1)
 |_=>none
theorem z23.l0_link (R:Type) (k:Env×Store->Option R) (d:X×Env×Store->Option R) (a:Int) (b c:Nat) (e g h:Int) (j m:J0) :
  z23.C.loopP 203 0 (Qf 0 (ifun Tryz.f203).body) 5 k d (Qa z23.l0sh [.i a,.n b,.n c,.i e,.i g,.i h,.li j,.li m]) =
  z23.l0P b c e g (λx'=>k (Qa z23.l0sh [.i a,.n b,.n c,.i e,.i g,.i x'.1,.li j,.li x'.2])) (λo=>d (z23.l0out0 a b c e g h j m o)) (h,m):=by kernel_rfl
theorem z23.link (a0:J0) (a1:Int):z23.C.evTop 203 (ifun Tryz.f203) [(.agg [(.ints false .u64 a0)]),(.int .i64 a1)] z23.dec=z23.F a0 a1:=by kernel_rfl
def z33.C:Ctx where
 T:=tab
 call:=Qh [(204,z32.pack)]
def z33.dec:V->Option (J1×Bool)
 |(.tup [(.str x0),(.bool x1)])=>some (x0,x1)
 |_=>none
theorem z33.link (a0 a1:J1):z33.C.evTop 161 (ifun Tryz.f161) [(.str a0),(.str a1)] z33.dec=z33.F a0 a1:=by kernel_rfl
def z34.C:Ctx where
 T:=tab
def z34.dec:V->Option (Int)
 |(.int .u64 x0)=>some x0
 |_=>none
theorem z34.link (a0:J0) (a1:Int):z34.C.evTop 103 (ifun Tryz.f103) [(.agg [(.ints false .u64 a0)]),(.int .i64 a1)] z34.dec=z34.F a0 a1:=by kernel_rfl
def z40.C:Ctx where
 T:=tab
 draws:=λf i=>match f,i with|12,2=>([(15,[(2,0)],0),(16,[(14,1)],1),(17,[(3,0)],0),(18,[(16,3)],4),(19,[(15,2),(17,4)],15),(20,[(2,0)],0),(21,[(19,6)],32),(22,[(18,5),(20,7)],127),(0,[(4,0),(21,8)],255)],4177920)|_,_=>([],0)
 call:=Qh [(53,z35.pack),(52,z30.pack),(54,z39.pack)]
theorem z40.link (a0:J0) (a1:Bool) (a2:J0) (a3:Bool):z40.C.evTop 12 (ifun Tryz.f12) [(.agg [(.ints false .u64 a0),(.bool a1)]),(.agg [(.ints false .u64 a2),(.bool a3)])] z41.dec=z40.F a0 a1 a2 a3:=by kernel_rfl
def z45.C:Ctx where
 T:=tab
 call:=Qh [(108,z15.pack),(257,z44.pack)]
theorem z45.link (a0:Int):z45.C.evTop 252 (ifun Tryz.f252) [(.int .i64 a0)] z23.dec=z45.F a0:=by kernel_rfl
def z48.C:Ctx where
 T:=tab
 call:=Qh [(218,z47.pack),(16,z29.pack)]
theorem z48.link (a0:J1):z48.C.evTop 176 (ifun Tryz.f176) [(.str a0)] z13.dec=z48.F a0:=by kernel_rfl
def z49.C:Ctx where
 T:=tab
 call:=Qh [(205,z3.pack)]
theorem z49.link (a0:J1):z49.C.evTop 212 (ifun Tryz.f212) [(.str a0)] z8.dec=z49.F a0:=by kernel_rfl
def z53.C:Ctx where
 T:=tab
theorem z53.link (a0:J0) (a1:Bool) (a2:Int):z53.C.evTop 214 (ifun Tryz.f214) [(.agg [(.ints false .u64 a0),(.bool a1),(.int .i64 a2)])] z13.dec=z53.F a0 a1 a2:=by kernel_rfl
def z54.C:Ctx where
 T:=tab
theorem z54.link (a0:J0) (a1:Bool) (a2:Int):z54.C.evTop 215 (ifun Tryz.f215) [(.agg [(.ints false .u64 a0),(.bool a1),(.int .i64 a2)])] z41.dec=z54.F a0 a1 a2:=by kernel_rfl
def z58.C:Ctx where
 T:=tab
 draws:=λf i=>match f,i with|243,1=>([(6,[(2,0)],0),(7,[(5,1)],1),(8,[(1,0)],0),(9,[(2,0)],0),(10,[(8,4)],8),(11,[(7,3),(9,5)],28),(12,[(10,6)],60),(13,[(6,2),(11,7)],127),(0,[(4,0),(12,8)],255)],8160)|_,_=>([],0)
 call:=Qh [(245,z56.pack),(246,z57.pack)]
theorem z58.link (a0:J0) (a1:Bool) (a2 a3:Int):z58.C.evTop 243 (ifun Tryz.f243) [(.agg [(.ints false .u64 a0),(.bool a1),(.int .i64 a2)]),(.int .i64 a3)] z41.dec=z58.F a0 a1 a2 a3:=by kernel_rfl
def z63.C:Ctx where
 T:=tab
 draws:=λf i=>match f,i with|244,6=>([(16,[(2,0)],0),(17,[(3,0)],0),(18,[(16,2)],2),(19,[(15,1),(17,3)],7),(0,[(4,0),(18,4)],15),(6,[],31)],491552)|_,_=>([],0)
 call:=Qh [(16,z29.pack),(66,z41.pack),(254,z60.pack),(253,z62.pack)]
theorem z63.link (a0:J0) (a1:Bool) (a2:J0) (a3:Bool):z63.C.evTop 244 (ifun Tryz.f244) [(.agg [(.ints false .u64 a0),(.bool a1)]),(.agg [(.ints false .u64 a2),(.bool a3)])] z69.dec=z63.F a0 a1 a2 a3:=by kernel_rfl
def z75.l0sh:Env×Store:=((.strs false [])::(.str ([]:J1)) :: .undef :: .undef::(.int .i64 0) :: .undef :: .undef::(.int .i64 0)::(.int .i64 0)::un 10 [],[])
def z75.l0so1:Env×Store:=(un 4 ((.int .i64 0)::un 14 []),[])
def z75.l0out0 (a:List J1) (b:J1) (c d e o:Int):X×Env×Store:=((.exit 0),Qa z75.l0sh [.ls a,.s b,.i c,.i d,.i o])
def z75.l0out1 (a:List J1) (b:J1) (c d e o:Int):X×Env×Store:=(.ret,Qa z75.l0so1 [.i o])
def z75.l0pack:List Leaf->Option LPack
 |[.ls a,.s b,.i c,.i d,.i e]=>some (.two _ _ (z75.l0 a b d e) (z75.l0out0 a b c d e) (z75.l0out1 a b c d e))
 |_=>none
def z75.C:Ctx where
 T:=tab
 keep:=λf i=>match f,i with|122,0=>([0,1,4,7,8],[],[])|_,_=>([],[],[])
 keepR:=λf i=>match f,i with|122,0=>([4],[],[4])|_,_=>([],[],[])
 L:=λf i b st=>match f,i,b with|122,0,0=>(matchSt z75.l0sh st).bind z75.l0pack|_,_,_=>none
theorem z75.l0_link (R:Type) (k:Env×Store->Option R) (d:X×Env×Store->Option R) (a:List J1) (b:J1) (c e g:Int) :
  z75.C.loopP 122 0 (Qf 0 (ifun Tryz.f122).body) 0 k d (Qa z75.l0sh [.ls a,.s b,.i c,.i e,.i g]) =
  z75.l0P a b e (λx'=>k (Qa z75.l0sh [.ls a,.s b,.i c,.i e,.i x'])) (λo=>match o with | .inl o=>d (z75.l0out0 a b c e g o) | .inr o=>d (z75.l0out1 a b c e g o)) g:=by kernel_rfl
theorem z75.link (a0:List J1) (a1:J1):z75.C.evTop 122 (ifun Tryz.f122) [(.strs false a0),(.str a1)] z13.dec=z75.F a0 a1:=by kernel_rfl
def z83.C:Ctx where
 T:=tab
 draws:=λf i=>match f,i with|71,4=>([(19,[],0),(20,[(6,0)],0),(21,[(19,2)],2),(22,[(18,1),(20,3)],7),(23,[(21,4)],15),(8,[],0),(0,[(7,6),(22,5)],63)],8126592)|_,_=>([],0)
 call:=Qh [(123,z76.pack),(122,z75.pack),(124,z82.pack),(115,z74.pack)]
 prim:=λg=>match g with|121=>some (blkP [139] z7.pk)|125=>some (blkP [139,70] z72.pk)|_=>none
def z83.dec:V->J2->Option (Int×Int×Int×Int×J1×Int×J2×Int×Int)
 |(.tup [(.agg [(.int .i64 x0),(.int .i64 x1),(.int .i64 x2),(.int .i64 x3),(.str x4)]),(.int .i64 x5)]),[[(.recs _ 3 x6),(.int .i64 x7),(.int .i64 x8)]]=>some (x0,x1,x2,x3,x4,x5,x6,x7,x8)
 |_,_=>none
theorem z83.link (a0:J2) (a1 a2 a3 a4 a5:Int):z83.C.evBlk 71 (ifun Tryz.f71) [139] [[(.recs false 3 a0),(.int .i64 a1),(.int .i64 a2)]] [(.agg [(.int .i64 a3),(.int .i64 a4),(.int .i64 a5)])] z83.dec=z83.F a0 a1 a2 a3 a4 a5:=by kernel_rfl
def z85.C:Ctx where
 T:=tab
 call:=Qh [(230,z2.pack)]
 inl:=λg=>match g with|190=>some (ifun Tryz.f190)|_=>none
theorem z85.link (a0:J1) (a1:Int):z85.C.evTop 164 (ifun Tryz.f164) [(.str a0),(.int .u8 a1)] z13.dec=z85.F a0 a1:=by kernel_rfl
def z87.C:Ctx where
 T:=tab
theorem z87.link (a0:Int):z87.C.evTop 165 (ifun Tryz.f165) [(.int .i32 a0)] z8.dec=z87.F a0:=by kernel_rfl
def z92.C:Ctx where
 T:=tab
theorem z92.link (a0:Int):z92.C.evTop 240 (ifun Tryz.f240) [(.int .i32 a0)] z8.dec=z92.F a0:=by kernel_rfl
def z93.C:Ctx where
 T:=tab
 draws:=λf i=>match f,i with|213,6=>([(28,[(0,0)],0),(29,[(9,0)],0),(30,[(27,1),(28,2)],3),(31,[(7,0)],0),(32,[(8,0)],0),(33,[(30,4),(31,5)],24),(34,[(29,3),(32,6)],63)],17045651456)|213,7=>([(35,[(0,0)],0),(36,[(9,0)],0),(37,[(35,2)],2),(38,[(34,1),(36,3)],7),(39,[(7,0)],0),(40,[(8,0)],0),(41,[(38,5),(39,6)],48),(42,[(37,4),(40,7)],127),(12,[(41,8)],255)],4380866643968)|_,_=>([],0)
 call:=Qh [(164,z85.pack),(240,z92.pack)]
 unroll:=λf i=>match f,i with|213,1=>1|_,_=>0
theorem z93.link (a0:J1) (a1:Int):z93.C.evTop 213 (ifun Tryz.f213) [(.str a0),(.int .i32 a1)] z13.dec=z93.F a0 a1:=by kernel_rfl
def z102.C:Ctx where
 T:=tab
 call:=Qh [(180,z52.pack),(181,z101.pack)]
theorem z102.link (a0:J0) (a1:Bool):z102.C.evTop 137 (ifun Tryz.f137) [(.agg [(.ints false .u64 a0),(.bool a1)])] z28.dec=z102.F a0 a1:=by kernel_rfl
def z103.C:Ctx where
 T:=tab
 draws:=λf i=>match f,i with|79,2=>([(15,[],0),(16,[(1,0)],0),(17,[(15,2)],2),(18,[(14,1),(16,3)],7),(19,[(17,4)],15),(20,[(3,0)],0),(21,[(18,5),(19,6)],63),(6,[(20,7)],127)],2080800)|_,_=>([],0)
 call:=Qh [(136,z100.pack),(123,z76.pack),(117,z38.pack),(137,z102.pack),(38,z6.pack)]
theorem z103.link (a0 a1 a2 a3:Int) (a4:J1):z103.C.evTop 79 (ifun Tryz.f79) [(.agg [(.int .i64 a0),(.int .i64 a1),(.int .i64 a2),(.int .i64 a3),(.str a4)])] z28.dec=z103.F a0 a1 a2 a3 a4:=by kernel_rfl
def z106.l0sh:Env×Store:=((.recs false 5 [])::(.recs false 5 []) :: .undef :: .undef::(.bool false)::un 7 ((.int .i64 0)::(.int .i64 0)::un 12 []),[])
def z106.l0so1:Env×Store:=(un 4 ((.bool false)::un 21 []),[])
def z106.l0out0 (a c:J2) (d:Bool) (e g o:Int):X×Env×Store:=((.exit 0),Qa z106.l0sh [.lr a,.lr c,.b d,.i e,.i o])
def z106.l0out1 (a c:J2) (d:Bool) (e g:Int) (o:Bool):X×Env×Store:=(.ret,Qa z106.l0so1 [.b o])
def z106.l0pack:List Leaf->Option LPack
 |[.lr a,.lr c,.b d,.i e,.i g]=>some (.two _ _ (z106.l0 a c e g) (z106.l0out0 a c d e g) (z106.l0out1 a c d e g))
 |_=>none
def z106.C:Ctx where
 T:=tab
 draws:=λf i=>match f,i with|27,6=>([(17,[(0,0)],0),(18,[(5,0)],0),(19,[(16,1),(17,2)],3),(20,[(18,3)],7),(21,[(1,0)],0),(22,[(5,0)],0),(23,[(20,5),(21,6)],48),(24,[(22,7)],112),(25,[(19,4),(23,8)],255)],33488896)|_,_=>([],0)
 keep:=λf i=>match f,i with|27,0=>([0,1,4,12,13],[],[])|_,_=>([],[],[])
 keepR:=λf i=>match f,i with|27,0=>([4],[],[4])|_,_=>([],[],[])
 L:=λf i b st=>match f,i,b with|27,0,0=>(matchSt z106.l0sh st).bind z106.l0pack|_,_,_=>none
theorem z106.l0_link (R:Type) (k:Env×Store->Option R) (d:X×Env×Store->Option R) (a c:J2) (e:Bool) (g h:Int) :
  z106.C.loopP 27 0 (Qf 0 (ifun Tryz.f27).body) 0 k d (Qa z106.l0sh [.lr a,.lr c,.b e,.i g,.i h]) =
  z106.l0P a c g (λx'=>k (Qa z106.l0sh [.lr a,.lr c,.b e,.i g,.i x'])) (λo=>match o with | .inl o=>d (z106.l0out0 a c e g h o) | .inr o=>d (z106.l0out1 a c e g h o)) h:=by kernel_rfl
theorem z106.link (a0 a1:J2):z106.C.evTop 27 (ifun Tryz.f27) [(.recs false 5 a0),(.recs false 5 a1)] z8.dec=z106.F a0 a1:=by kernel_rfl
def z107.l2sh:Env×Store:=((.ints false .i64 []) :: .undef::(.str ([]:J1))::(.str ([]:J1))::(.int .i64 0)::(.int .i64 0)::(.int .i64 0)::un 37 [],[])
def z107.l2out0 (a:J0) (b c:J1) (d e g:Int) (o:J1×Int×Int):X×Env×Store:=((.exit 2),Qa z107.l2sh [.li a,.s b,.s o.1,.i d,.i o.2.1,.i o.2.2])
def z107.l2pack:List Leaf->Option LPack
 |[.li a,.s b,.s c,.i d,.i e,.i g]=>some (.one _ (z107.l2 (c,e,g)) (z107.l2out0 a b c d e g))
 |_=>none
def z107.l0sh:Env×Store:=((.ints false .i64 []) :: .undef::(.str ([]:J1))::(.str ([]:J1))::(.int .i64 0)::un 39 [],[])
def z107.l0out0 (a:J0) (b c:J1) (d:Int) (o:J1×Int):X×Env×Store:=((.exit 0),Qa z107.l0sh [.li a,.s b,.s o.1,.i o.2])
def z107.l0pack:List Leaf->Option LPack
 |[.li a,.s b,.s c,.i d]=>some (.one _ (z107.l0 a (c,d)) (z107.l0out0 a b c d))
 |_=>none
def z107.l4sh:Env×Store:=(.undef :: .undef::(.str ([]:J1))::(.str ([]:J1))::un 3 ((.int .i64 0)::un 36 []),[])
def z107.l4out0 (a b:J1) (c o:Int):X×Env×Store:=((.exit 4),Qa z107.l4sh [.s a,.s b,.i o])
def z107.l4pack:List Leaf->Option LPack
 |[.s a,.s b,.i c]=>some (.one _ (z107.l4 b c) (z107.l4out0 a b c))
 |_=>none
def z107.C:Ctx where
 T:=tab
 keep:=λf i=>match f,i with|56,2=>([0,2,3,4,5,6],[],[])|56,0=>([0,2,3,4],[],[])|56,4=>([2,3,7],[],[])|_,_=>([],[],[])
 keepR:=λf i=>match f,i with|56,2=>([2],[],[2])|56,0=>([2],[],[2])|56,4=>([2],[],[2])|_,_=>([],[],[])
 L:=λf i b st=>match f,i,b with|56,2,0=>(matchSt z107.l2sh st).bind z107.l2pack|56,0,0=>(matchSt z107.l0sh st).bind z107.l0pack|56,4,0=>(matchSt z107.l4sh st).bind z107.l4pack|_,_,_=>none
theorem z107.l2_link (R:Type) (k:Env×Store->Option R) (d:X×Env×Store->Option R) (a:J0) (b c:J1) (e g h:Int) :
  z107.C.loopP 56 2 (Qf 2 (ifun Tryz.f56).body) 0 k d (Qa z107.l2sh [.li a,.s b,.s c,.i e,.i g,.i h]) =
  z107.l2P (λx'=>k (Qa z107.l2sh [.li a,.s b,.s x'.1,.i e,.i x'.2.1,.i x'.2.2])) (λo=>d (z107.l2out0 a b c e g h o)) (c,g,h):=by kernel_rfl
theorem z107.l0_link (R:Type) (k:Env×Store->Option R) (d:X×Env×Store->Option R) (a:J0) (b c:J1) (e:Int) :
  z107.C.loopP 56 0 (Qf 0 (ifun Tryz.f56).body) 0 k d (Qa z107.l0sh [.li a,.s b,.s c,.i e]) =
  z107.l0P a (λx'=>k (Qa z107.l0sh [.li a,.s b,.s x'.1,.i x'.2])) (λo=>d (z107.l0out0 a b c e o)) (c,e):=by kernel_rfl
theorem z107.l4_link (R:Type) (k:Env×Store->Option R) (d:X×Env×Store->Option R) (a b:J1) (c:Int) :
  z107.C.loopP 56 4 (Qf 4 (ifun Tryz.f56).body) 0 k d (Qa z107.l4sh [.s a,.s b,.i c]) =
  z107.l4P b (λx'=>k (Qa z107.l4sh [.s a,.s b,.i x'])) (λo=>d (z107.l4out0 a b c o)) c:=by kernel_rfl
theorem z107.link (a0:J0):z107.C.evTop 56 (ifun Tryz.f56) [(.ints false .i64 a0)] z28.dec=z107.F a0:=by kernel_rfl
def z114.C:Ctx where
 T:=tab
 call:=Qh [(97,z113.pack),(69,z112.pack)]
def z114.dec:V->Option (J0×Bool)
 |(.agg [(.ints _ .i64 x0),(.bool x1)])=>some (x0,x1)
 |_=>none
theorem z114.link (a0:Int):z114.C.evTop 48 (ifun Tryz.f48) [(.int .i64 a0)] z114.dec=z114.F a0:=by kernel_rfl
def z117.C:Ctx where
 T:=tab
 call:=Qh [(46,z116.pack)]
def z117.dec:V->Option (Int×Int×Int)
 |(.agg [(.int .i64 x0),(.int .i64 x1),(.int .i64 x2)])=>some (x0,x1,x2)
 |_=>none
theorem z117.link (a0 a1 a2:Int) (a3 a4 a5:J0):z117.C.evTop 29 (ifun Tryz.f29) [(.agg [(.int .i64 a0),(.int .i64 a1),(.int .i64 a2),(.ints false .u8 a3),(.ints false .u8 a4),(.ints false .u32 a5)])] z117.dec=z117.F a0 a1 a2 a3 a4 a5:=by kernel_rfl
def z120.l0sh:Env×Store:=((.ints false .i64 []) :: .undef::(.sref 0 0)::(.int .i64 0)::un 17 [],[(.arr 0 true 3 (.ints false .i64 []))])
def z120.l0out0 (a:J0) (b:Int) (c:J0) (o:Int):X×Env×Store:=((.exit 0),Qa z120.l0sh [.li a,.i o,.li c])
def z120.l0pack:List Leaf->Option LPack
 |[.li a,.i b,.li c]=>some (.one _ (z120.l0 a b) (z120.l0out0 a b c))
 |_=>none
def z120.C:Ctx where
 T:=tab
 keep:=λf i=>match f,i with|158,0=>([0,2,3],[0],[])|_,_=>([],[],[])
 keepR:=λf i=>match f,i with|158,0=>([2],[0],[2])|_,_=>([],[],[])
 L:=λf i b st=>match f,i,b with|158,0,0=>(matchSt z120.l0sh st).bind z120.l0pack|_,_,_=>none
theorem z120.l0_link (R:Type) (k:Env×Store->Option R) (d:X×Env×Store->Option R) (a:J0) (b:Int) (c:J0) :
  z120.C.loopP 158 0 (Qf 0 (ifun Tryz.f158).body) 1 k d (Qa z120.l0sh [.li a,.i b,.li c]) =
  z120.l0P a (λx'=>k (Qa z120.l0sh [.li a,.i x',.li c])) (λo=>d (z120.l0out0 a b c o)) b:=by kernel_rfl
theorem z120.link (a0:J0):z120.C.evTop 158 (ifun Tryz.f158) [(.ints false .i64 a0)] z113.dec=z120.F a0:=by kernel_rfl
def z121.l2sh:Env×Store:=((.str ([]:J1)) :: .undef::(.sref 0 0)::(.sref 1 0)::(.int .i64 0)::(.int .i64 0)::(.int .i64 0)::un 28 [],[(.arr 0 true 3 (.ints false .i64 [])),(.arr 0 true 3 (.ints false .i64 []))])
def z121.l2out0 (a:J1) (b c d:Int) (e g:J0) (o:Int×Int):X×Env×Store:=((.exit 2),Qa z121.l2sh [.s a,.i b,.i o.1,.i o.2,.li e,.li g])
def z121.l2pack:List Leaf->Option LPack
 |[.s a,.i b,.i c,.i d,.li e,.li g]=>some (.one _ (z121.l2 a b (c,d)) (z121.l2out0 a b c d e g))
 |_=>none
def z121.l0sh:Env×Store:=((.str ([]:J1)) :: .undef::(.sref 0 0)::(.sref 1 0)::(.int .i64 0)::un 30 [],[(.arr 0 true 3 (.ints false .i64 [])),(.arr 0 true 3 (.ints false .i64 []))])
def z121.l0out0 (a:J1) (b:Int) (c d:J0) (o:Int×J0):X×Env×Store:=((.exit 0),Qa z121.l0sh [.s a,.i o.1,.li c,.li o.2])
def z121.l0pack:List Leaf->Option LPack
 |[.s a,.i b,.li c,.li d]=>some (.one _ (z121.l0 a (b,d)) (z121.l0out0 a b c d))
 |_=>none
def z121.C:Ctx where
 T:=tab
 call:=Qh [(158,z120.pack)]
 keep:=λf i=>match f,i with|111,2=>([0,2,3,4,5,6],[0,1],[])|111,0=>([0,2,3,4],[0,1],[])|_,_=>([],[],[])
 keepR:=λf i=>match f,i with|111,2=>([2],[0,1],[2])|111,0=>([2],[0,1],[2])|_,_=>([],[],[])
 L:=λf i b st=>match f,i,b with|111,2,0=>(matchSt z121.l2sh st).bind z121.l2pack|111,0,0=>(matchSt z121.l0sh st).bind z121.l0pack|_,_,_=>none
theorem z121.l2_link (R:Type) (k:Env×Store->Option R) (d:X×Env×Store->Option R) (a:J1) (b c e:Int) (g h:J0) :
  z121.C.loopP 111 2 (Qf 2 (ifun Tryz.f111).body) 2 k d (Qa z121.l2sh [.s a,.i b,.i c,.i e,.li g,.li h]) =
  z121.l2P a b (λx'=>k (Qa z121.l2sh [.s a,.i b,.i x'.1,.i x'.2,.li g,.li h])) (λo=>d (z121.l2out0 a b c e g h o)) (c,e):=by kernel_rfl
theorem z121.l0_link (R:Type) (k:Env×Store->Option R) (d:X×Env×Store->Option R) (a:J1) (b:Int) (c e:J0) :
  z121.C.loopP 111 0 (Qf 0 (ifun Tryz.f111).body) 2 k d (Qa z121.l0sh [.s a,.i b,.li c,.li e]) =
  z121.l0P a (λx'=>k (Qa z121.l0sh [.s a,.i x'.1,.li c,.li x'.2])) (λo=>d (z121.l0out0 a b c e o)) (b,e):=by kernel_rfl
theorem z121.link (a0:J1):z121.C.evTop 111 (ifun Tryz.f111) [(.str a0)] z113.dec=z121.F a0:=by kernel_rfl
def z123.l0sh:Env×Store:=((.str ([]:J1)) :: .undef::(.bool false)::(.int .i64 0)::un 29 [],[])
def z123.l0so1:Env×Store:=(.undef :: .undef::(.bool false)::un 30 [],[])
def z123.l0out0 (a:J1) (c:Bool) (d o:Int):X×Env×Store:=((.exit 0),Qa z123.l0sh [.s a,.b c,.i o])
def z123.l0out1 (a:J1) (c:Bool) (d:Int) (o:Bool):X×Env×Store:=(.ret,Qa z123.l0so1 [.b o])
def z123.l0pack:List Leaf->Option LPack
 |[.s a,.b c,.i d]=>some (.two _ _ (z123.l0 a d) (z123.l0out0 a c d) (z123.l0out1 a c d))
 |_=>none
def z123.C:Ctx where
 T:=tab
 keep:=λf i=>match f,i with|186,0=>([0,2,3],[],[])|_,_=>([],[],[])
 keepR:=λf i=>match f,i with|186,0=>([2],[],[2])|_,_=>([],[],[])
 L:=λf i b st=>match f,i,b with|186,0,0=>(matchSt z123.l0sh st).bind z123.l0pack|_,_,_=>none
theorem z123.l0_link (R:Type) (k:Env×Store->Option R) (d:X×Env×Store->Option R) (a:J1) (c:Bool) (e:Int) :
  z123.C.loopP 186 0 (Qf 0 (ifun Tryz.f186).body) 0 k d (Qa z123.l0sh [.s a,.b c,.i e]) =
  z123.l0P a (λx'=>k (Qa z123.l0sh [.s a,.b c,.i x'])) (λo=>match o with | .inl o=>d (z123.l0out0 a c e o) | .inr o=>d (z123.l0out1 a c e o)) e:=by kernel_rfl
theorem z123.link (a0:J1):z123.C.evTop 186 (ifun Tryz.f186) [(.str a0)] z8.dec=z123.F a0:=by kernel_rfl
def z124.C:Ctx where
 T:=tab
 call:=Qh [(48,z114.pack),(186,z123.pack),(57,z122.pack)]
theorem z124.link (a0:J1):z124.C.evTop 140 (ifun Tryz.f140) [(.str a0)] z135.dec=z124.F a0:=by kernel_rfl
def z125.l0sh:Env×Store:=((.int .i64 0) :: .undef::(.sref 0 0)::(.str ([]:J1))::(.int .i64 0)::un 9 [],[(.arr 0 true 3 (.ints false .i64 []))])
def z125.l0out0 (a:Int) (b:J1) (c:Int) (d:J0) (o:J1×Int):X×Env×Store:=((.exit 0),Qa z125.l0sh [.i a,.s o.1,.i o.2,.li d])
def z125.l0pack:List Leaf->Option LPack
 |[.i a,.s b,.i c,.li d]=>some (.one _ (z125.l0 a (b,c)) (z125.l0out0 a b c d))
 |_=>none
def z125.C:Ctx where
 T:=tab
 call:=Qh [(111,z121.pack)]
 keep:=λf i=>match f,i with|141,0=>([0,2,3,4],[0],[])|_,_=>([],[],[])
 keepR:=λf i=>match f,i with|141,0=>([2],[0],[2])|_,_=>([],[],[])
 L:=λf i b st=>match f,i,b with|141,0,0=>(matchSt z125.l0sh st).bind z125.l0pack|_,_,_=>none
theorem z125.l0_link (R:Type) (k:Env×Store->Option R) (d:X×Env×Store->Option R) (a:Int) (b:J1) (c:Int) (e:J0) :
  z125.C.loopP 141 0 (Qf 0 (ifun Tryz.f141).body) 1 k d (Qa z125.l0sh [.i a,.s b,.i c,.li e]) =
  z125.l0P a (λx'=>k (Qa z125.l0sh [.i a,.s x'.1,.i x'.2,.li e])) (λo=>d (z125.l0out0 a b c e o)) (b,c):=by kernel_rfl
theorem z125.link (a0:Int):z125.C.evTop 141 (ifun Tryz.f141) [(.int .i64 a0)] z113.dec=z125.F a0:=by kernel_rfl
def z126.C:Ctx where
 T:=tab
 call:=Qh [(69,z112.pack)]
theorem z126.link (a0:J0) (a1:Bool):z126.C.evTop 23 (ifun Tryz.f23) [(.agg [(.ints false .i64 a0),(.bool a1)])] z114.dec=z126.F a0 a1:=by kernel_rfl
def z129.l0sh:Env×Store:=((.ints false .i64 [])::(.ints false .i64 []) :: .undef :: .undef::(.int .i64 0)::(.int .i64 0)::un 35 [],[])
def z129.l0so1:Env×Store:=(un 4 ((.int .i64 0)::un 36 []),[])
def z129.l0out0 (a b:J0) (c d o:Int):X×Env×Store:=((.exit 0),Qa z129.l0sh [.li a,.li b,.i c,.i o])
def z129.l0out1 (a b:J0) (c d o:Int):X×Env×Store:=(.ret,Qa z129.l0so1 [.i o])
def z129.l0pack:List Leaf->Option LPack
 |[.li a,.li b,.i c,.i d]=>some (.two _ _ (z129.l0 a b d) (z129.l0out0 a b c d) (z129.l0out1 a b c d))
 |_=>none
def z129.C:Ctx where
 T:=tab
 draws:=λf i=>match f,i with|113,8=>([(24,[(0,0)],0),(25,[(5,0)],0),(26,[(23,1),(24,2)],3),(27,[(25,3)],7),(28,[(1,0)],0),(29,[(5,0)],0),(30,[(27,5),(28,6)],48),(31,[(29,7)],112),(32,[(26,4),(30,8)],255)],4286578688)|113,10=>([(33,[(0,0)],0),(34,[(5,0)],0),(35,[(32,1),(33,2)],3),(36,[(34,3)],7),(37,[(1,0)],0),(38,[(5,0)],0),(39,[(36,5),(37,6)],48),(40,[(38,7)],112),(41,[(35,4),(39,8)],255)],2194728288256)|_,_=>([],0)
 keep:=λf i=>match f,i with|113,0=>([0,1,4,5],[],[])|_,_=>([],[],[])
 keepR:=λf i=>match f,i with|113,0=>([4],[],[4])|_,_=>([],[],[])
 L:=λf i b st=>match f,i,b with|113,0,0=>(matchSt z129.l0sh st).bind z129.l0pack|_,_,_=>none
theorem z129.l0_link (R:Type) (k:Env×Store->Option R) (d:X×Env×Store->Option R) (a b:J0) (c e:Int) :
  z129.C.loopP 113 0 (Qf 0 (ifun Tryz.f113).body) 0 k d (Qa z129.l0sh [.li a,.li b,.i c,.i e]) =
  z129.l0P a b (λx'=>k (Qa z129.l0sh [.li a,.li b,.i c,.i x'])) (λo=>match o with | .inl o=>d (z129.l0out0 a b c e o) | .inr o=>d (z129.l0out1 a b c e o)) e:=by kernel_rfl
theorem z129.link (a0 a1:J0):z129.C.evTop 113 (ifun Tryz.f113) [(.ints false .i64 a0),(.ints false .i64 a1)] z13.dec=z129.F a0 a1:=by kernel_rfl
def z130.l0sh:Env×Store:=((.ints false .i64 [])::(.ints false .i64 []) :: .undef :: .undef::(.sref 0 0)::(.sref 1 0)::(.int .i64 0)::(.int .i64 0)::un 29 [],[(.arr 0 true 3 (.ints false .i64 [])),(.arr 0 true 3 (.ints false .i64 []))])
def z130.l0out0 (a b:J0) (c d:Int) (e g:J0) (o:Int×Int×J0):X×Env×Store:=((.exit 0),Qa z130.l0sh [.li a,.li b,.i o.1,.i o.2.1,.li e,.li o.2.2])
def z130.l0pack:List Leaf->Option LPack
 |[.li a,.li b,.i c,.i d,.li e,.li g]=>some (.one _ (z130.l0 a b (c,d,g)) (z130.l0out0 a b c d e g))
 |_=>none
def z130.C:Ctx where
 T:=tab
 call:=Qh [(159,z127.pack),(158,z120.pack)]
 keep:=λf i=>match f,i with|114,0=>([0,1,4,5,6,7],[0,1],[])|_,_=>([],[],[])
 keepR:=λf i=>match f,i with|114,0=>([4],[0,1],[4])|_,_=>([],[],[])
 L:=λf i b st=>match f,i,b with|114,0,0=>(matchSt z130.l0sh st).bind z130.l0pack|_,_,_=>none
theorem z130.l0_link (R:Type) (k:Env×Store->Option R) (d:X×Env×Store->Option R) (a b:J0) (c e:Int) (g h:J0) :
  z130.C.loopP 114 0 (Qf 0 (ifun Tryz.f114).body) 2 k d (Qa z130.l0sh [.li a,.li b,.i c,.i e,.li g,.li h]) =
  z130.l0P a b (λx'=>k (Qa z130.l0sh [.li a,.li b,.i x'.1,.i x'.2.1,.li g,.li x'.2.2])) (λo=>d (z130.l0out0 a b c e g h o)) (c,e,h):=by kernel_rfl
theorem z130.link (a0 a1:J0):z130.C.evTop 114 (ifun Tryz.f114) [(.ints false .i64 a0),(.ints false .i64 a1)] z113.dec=z130.F a0 a1:=by kernel_rfl
def z132.C:Ctx where
 T:=tab
 call:=Qh [(23,z126.pack),(58,z131.pack)]
theorem z132.link (a0:J0) (a1:Bool) (a2:J0) (a3:Bool):z132.C.evTop 59 (ifun Tryz.f59) [(.agg [(.ints false .i64 a0),(.bool a1)]),(.agg [(.ints false .i64 a2),(.bool a3)])] z114.dec=z132.F a0 a1 a2 a3:=by kernel_rfl
end
noncomputable section
def z7.C:Ctx where
 T:=tab
 draws:=λf i=>match f,i with|121,5=>([(25,[(0,0)],0),(26,[(0,0)],0),(27,[(0,0)],0),(28,[(26,3)],4),(29,[(27,4)],12),(30,[(28,5)],28),(31,[(29,6)],60),(32,[(3,0)],0),(33,[(31,8)],128),(34,[(24,1)],125),(35,[(33,10)],637),(0,[(34,11),(30,7)],1661),(36,[(25,2)],4095),(37,[(35,13)],8191),(0,[(36,14),(32,9)],16383)],137422176256)|_,_=>([],0)
def z7.dec:V->J2->Option (Int×J1×Int×J2×Int×Int)
 |(.agg [(.int .i64 x0),(.str x1),(.int .i64 x2)]),[[(.recs _ 3 x3),(.int .i64 x4),(.int .i64 x5)]]=>some (x0,x1,x2,x3,x4,x5)
 |_,_=>none
theorem z7.link (a0:J2) (a1 a2:Int):z7.C.evBlk 121 (ifun Tryz.f121) [139] [[(.recs false 3 a0),(.int .i64 a1),(.int .i64 a2)]] [] z7.dec=z7.F a0 a1 a2:=by kernel_rfl
def z17.C:Ctx where
 T:=tab
theorem z17.link (a0:Int):z17.C.evTop 232 (ifun Tryz.f232) [(.int .u64 a0)] z13.dec=z17.F a0:=by kernel_rfl
def z21.C:Ctx where
 T:=tab
theorem z21.link (a0 a1:Int):z21.C.evTop 145 (ifun Tryz.f145) [(.int .u64 a0),(.int .u64 a1)] z19.dec=z21.F a0 a1:=by kernel_rfl
def z26.l0sh:Env×Store:=((.int .u64 0)::(.int .i64 0) :: .undef :: .undef::(.str ([]:J1))::(.ptr 0 0)::(.int .i64 0)::un 21 [],[(.arr 0 false 244 (.ints false .u8 []))])
def z26.l0out0 (a b:Int) (c:J1) (d:Int) (e:J0) (o:Int×Int×J0):X×Env×Store:=((.exit 0),Qa z26.l0sh [.i o.1,.i b,.s c,.i o.2.1,.li o.2.2])
def z26.l0pack:List Leaf->Option LPack
 |[.i a,.i b,.s c,.i d,.li e]=>some (.one _ (z26.l0 b (a,d,e)) (z26.l0out0 a b c d e))
 |_=>none
def z26.C:Ctx where
 T:=tab
 keep:=λf i=>match f,i with|110,0=>([0,1,4,5,6],[0],[])|_,_=>([],[],[])
 keepR:=λf i=>match f,i with|110,0=>([4],[0],[4])|_,_=>([],[],[])
 L:=λf i b st=>match f,i,b with|110,0,0=>(matchSt z26.l0sh st).bind z26.l0pack|_,_,_=>none
theorem z26.l0_link (R:Type) (k:Env×Store->Option R) (d:X×Env×Store->Option R) (a b:Int) (c:J1) (e:Int) (g:J0) :
  z26.C.loopP 110 0 (Qf 0 (ifun Tryz.f110).body) 1 k d (Qa z26.l0sh [.i a,.i b,.s c,.i e,.li g]) =
  z26.l0P b (λx'=>k (Qa z26.l0sh [.i x'.1,.i b,.s c,.i x'.2.1,.li x'.2.2])) (λo=>d (z26.l0out0 a b c e g o)) (a,e,g):=by kernel_rfl
theorem z26.link (a0 a1:Int):z26.C.evTop 110 (ifun Tryz.f110) [(.int .u64 a0),(.int .i64 a1)] z28.dec=z26.F a0 a1:=by kernel_rfl
def z27.l2sh:Env×Store:=(.undef::(.ptr 0 0)::(.str ([]:J1))::(.sref 1 0)::(.ptr 2 0) :: .undef :: .undef::(.int .u64 0)::un 19 ((.ints false .u64 [])::(.int .i64 0)::(.int .i64 0)::un 27 []),[(.cells 37 [(.ints false .u64 [])]),(.arr 0 true 9 (.strs false [])),(.cells 37 [(.ints false .u64 [])]),.dead])
def z27.l2out0 (a:J1) (b:Int) (c:J0) (d e:Int) (g:J0) (h:List J1) (j:J0) (o:Int×Int):X×Env×Store:=((.exit 2),Qa z27.l2sh [.s a,.i o.1,.li c,.i d,.i o.2,.li g,.ls h,.li j])
def z27.l2pack:List Leaf->Option LPack
 |[.s a,.i b,.li c,.i d,.i e,.li g,.ls h,.li j]=>some (.one _ (z27.l2 c d (b,e)) (z27.l2out0 a b c d e g h j))
 |_=>none
def z27.l0sh:Env×Store:=(.undef::(.ptr 0 0)::(.str ([]:J1))::(.sref 1 0)::un 53 [],[(.cells 37 [(.ints false .u64 [])]),(.arr 0 true 9 (.strs false []))])
def z27.l0out0 (a:J1) (b:J0) (c:List J1) (o:J0×(List J1)):X×Env×Store:=((.exit 0),Qa z27.l0sh [.s a,.li o.1,.ls o.2])
def z27.l0pack:List Leaf->Option LPack
 |[.s a,.li b,.ls c]=>some (.one _ (z27.l0 (b,c)) (z27.l0out0 a b c))
 |_=>none
def z27.l4sh:Env×Store:=(.undef :: .undef::(.str ([]:J1))::(.sref 1 0)::un 7 ((.ptr 2 0)::(.int .i64 0)::un 44 []),[.dead,(.arr 0 true 9 (.strs false [])),(.cells 159 [(.ptr 2 0),(.sref 3 0)]),(.arr 0 true 5 (.ints false .u8 []))])
def z27.l4out0 (a:J1) (b:Int) (c:List J1) (d:J0) (o:Int×J0):X×Env×Store:=((.exit 4),Qa z27.l4sh [.s a,.i o.1,.ls c,.li o.2])
def z27.l4pack:List Leaf->Option LPack
 |[.s a,.i b,.ls c,.li d]=>some (.one _ (z27.l4 c (b,d)) (z27.l4out0 a b c d))
 |_=>none
def z27.C:Ctx where
 T:=tab
 draws:=λf i=>match f,i with|55,5=>([(20,[(1,0)],0),(21,[],0),(22,[(20,2)],2),(23,[(19,1),(21,3)],7),(19,[(22,4)],15),(24,[(18,5)],31),(25,[(18,5)],31),(26,[(18,5)],31),(5,[],0),(6,[],0),(0,[(4,9),(23,6)],831),(0,[(5,10),(24,7)],1919),(7,[(25,8)],4095)],66846832)|80,1=>([(4,[(0,0)],0),(5,[(3,1)],1),(6,[(4,2)],3),(7,[(5,3)],7),(8,[(6,4)],15),(9,[(0,0)],0),(10,[(8,6)],32),(11,[(9,7)],96),(12,[(10,8)],224),(13,[(11,9)],480),(14,[(7,5),(12,10)],1023),(3,[(13,11)],2047)],16380)|_,_=>([],0)
 call:=Qh [(60,z8.pack),(108,z15.pack),(107,z25.pack),(109,z16.pack),(110,z26.pack)]
 inl:=λg=>match g with|80=>some (ifun Tryz.f80)|78=>some (ifun Tryz.f78)|_=>none
 rank:=λg=>match g with|78=>1|_=>0
 prim:=λg=>match g with|135=>some (copyP 159)|_=>none
 keep:=λf i=>match f,i with|55,2=>([1,2,3,4,7,27,28,29],[0,1,2],[])|55,0=>([1,2,3],[0,1],[])|55,4=>([2,3,11,12],[1,2,3],[])|_,_=>([],[],[])
 keepR:=λf i=>match f,i with|55,2=>([2],[0,1,2],[2])|55,0=>([2],[0,1],[2])|55,4=>([2],[1,2,3],[2])|_,_=>([],[],[])
 unroll:=λf i=>match f,i with|55,4=>1|_,_=>0
 L:=λf i b st=>match f,i,b with|55,2,0=>(matchSt z27.l2sh st).bind z27.l2pack|55,0,0=>(matchSt z27.l0sh st).bind z27.l0pack|55,4,0=>(matchSt z27.l4sh st).bind z27.l4pack|_,_,_=>none
theorem z27.l2_link (R:Type) (k:Env×Store->Option R) (d:X×Env×Store->Option R) (a:J1) (b:Int) (c:J0) (e g:Int) (h:J0) (j:List J1) (m:J0) :
  z27.C.loopP 55 2 (Qf 2 (ifun Tryz.f55).body) 4 k d (Qa z27.l2sh [.s a,.i b,.li c,.i e,.i g,.li h,.ls j,.li m]) =
  z27.l2P c e (λx'=>k (Qa z27.l2sh [.s a,.i x'.1,.li c,.i e,.i x'.2,.li h,.ls j,.li m])) (λo=>d (z27.l2out0 a b c e g h j m o)) (b,g):=by kernel_rfl
theorem z27.l0_link (R:Type) (k:Env×Store->Option R) (d:X×Env×Store->Option R) (a:J1) (b:J0) (c:List J1) :
  z27.C.loopP 55 0 (Qf 0 (ifun Tryz.f55).body) 2 k d (Qa z27.l0sh [.s a,.li b,.ls c]) =
  z27.l0P (λx'=>k (Qa z27.l0sh [.s a,.li x'.1,.ls x'.2])) (λo=>d (z27.l0out0 a b c o)) (b,c):=by kernel_rfl
theorem z27.l4_link (R:Type) (k:Env×Store->Option R) (d:X×Env×Store->Option R) (a:J1) (b:Int) (c:List J1) (e:J0) :
  z27.C.loopP 55 4 (Qf 4 (ifun Tryz.f55).body) 4 k d (Qa z27.l4sh [.s a,.i b,.ls c,.li e]) =
  z27.l4P c (λx'=>k (Qa z27.l4sh [.s a,.i x'.1,.ls c,.li x'.2])) (λo=>d (z27.l4out0 a b c e o)) (b,e):=by kernel_rfl
theorem z27.link (a0:J0):z27.C.evTop 55 (ifun Tryz.f55) [(.agg [(.ints false .u64 a0)])] z28.dec=z27.F a0:=by kernel_rfl
def z30.C:Ctx where
 T:=tab
 draws:=λf i=>match f,i with|52,1=>([(6,[(2,0)],0),(7,[(1,0)],0),(8,[(6,2)],2),(9,[(2,0),(7,3)],6),(10,[(8,4),(7,3)],14),(11,[(9,5),(7,3)],30),(12,[(7,3),(10,6)],62),(13,[(5,1),(11,7)],127),(0,[(4,0),(12,8)],255)],8160)|_,_=>([],0)
 call:=Qh [(60,z8.pack)]
theorem z30.link (a0:J0) (a1:Bool):z30.C.evTop 52 (ifun Tryz.f52) [(.agg [(.ints false .u64 a0)]),(.bool a1)] z41.dec=z30.F a0 a1:=by kernel_rfl
def z35.l0sh:Env×Store:=(.undef :: .undef::(.ptr 0 0)::(.ptr 1 0)::(.ptr 2 0)::(.sref 3 0)::(.int .u64 0)::un 11 ((.int .i64 0)::(.int .i64 0)::un 19 []),[(.cells 37 [(.ints false .u64 [])]),(.cells 37 [(.ints false .u64 [])]),(.cells 37 [(.ints false .u64 [])]),(.arr 0 false 183 (.ints false .u64 []))])
def z35.l0out0 (a b c:Int) (d e g h:J0) (o:Int×Int×J0):X×Env×Store:=((.exit 0),Qa z35.l0sh [.i o.1,.i b,.i o.2.1,.li d,.li e,.li g,.li o.2.2])
def z35.l0pack:List Leaf->Option LPack
 |[.i a,.i b,.i c,.li d,.li e,.li g,.li h]=>some (.one _ (z35.l0 b d e (a,c,h)) (z35.l0out0 a b c d e g h))
 |_=>none
def z35.C:Ctx where
 T:=tab
 draws:=λf i=>match f,i with|53,6=>([(24,[(5,0)],0),(25,[(7,0)],0),(26,[(2,0)],0),(27,[(7,0)],0),(28,[(25,3),(26,4)],12),(29,[(3,0)],0),(30,[(7,0)],0),(31,[(28,6),(29,7)],124),(32,[(6,16)],0),(33,[(27,5),(30,8),(31,9)],508),(23,[(32,10)],1020),(34,[(22,11)],2044),(35,[(22,11)],2044),(36,[(23,1),(24,2)],4095),(0,[(35,14),(33,12)],12287),(7,[(34,13)],32767)],68715282496)|_,_=>([],0)
 call:=Qh [(103,z34.pack),(102,z0.pack),(104,z14.pack)]
 keep:=λf i=>match f,i with|53,0=>([2,3,4,5,6,18,19],[0,1,2,3],[])|_,_=>([],[],[])
 keepR:=λf i=>match f,i with|53,0=>([4],[0,1,2,3],[4])|_,_=>([],[],[])
 L:=λf i b st=>match f,i,b with|53,0,0=>(matchSt z35.l0sh st).bind z35.l0pack|_,_,_=>none
theorem z35.l0_link (R:Type) (k:Env×Store->Option R) (d:X×Env×Store->Option R) (a b c:Int) (e g h j:J0) :
  z35.C.loopP 53 0 (Qf 0 (ifun Tryz.f53).body) 4 k d (Qa z35.l0sh [.i a,.i b,.i c,.li e,.li g,.li h,.li j]) =
  z35.l0P b e g (λx'=>k (Qa z35.l0sh [.i x'.1,.i b,.i x'.2.1,.li e,.li g,.li h,.li x'.2.2])) (λo=>d (z35.l0out0 a b c e g h j o)) (a,c,j):=by kernel_rfl
theorem z35.link (a0 a1:J0):z35.C.evTop 53 (ifun Tryz.f53) [(.agg [(.ints false .u64 a0)]),(.agg [(.ints false .u64 a1)])] z14.dec=z35.F a0 a1:=by kernel_rfl
def z43.C:Ctx where
 T:=tab
 call:=Qh [(194,z42.pack),(16,z29.pack)]
theorem z43.link (a0:J0) (a1:Bool) (a2:J0) (a3:Bool):z43.C.evTop 241 (ifun Tryz.f241) [(.agg [(.ints false .u64 a0),(.bool a1)]),(.agg [(.ints false .u64 a2),(.bool a3)])] z13.dec=z43.F a0 a1 a2 a3:=by kernel_rfl
def z47.C:Ctx where
 T:=tab
 draws:=λf i=>match f,i with|218,4=>([(18,[(4,0)],0),(19,[(17,1)],1),(20,[(18,2)],3),(21,[(19,3)],7),(22,[(4,0),(20,4)],15),(23,[(20,4)],15),(24,[(21,5),(22,6),(20,4)],63),(25,[(23,7),(20,4)],127),(26,[(20,4),(24,8)],255),(17,[(25,9)],511)],67043328)|_,_=>([],0)
 call:=Qh [(117,z38.pack),(16,z29.pack),(242,z46.pack),(241,z43.pack)]
theorem z47.link (a0:J1):z47.C.evTop 218 (ifun Tryz.f218) [(.str a0)] z38.dec=z47.F a0:=by kernel_rfl
def z55.C:Ctx where
 T:=tab
 call:=Qh [(108,z15.pack),(52,z30.pack)]
theorem z55.link (a0:Int):z55.C.evTop 219 (ifun Tryz.f219) [(.int .i64 a0)] z41.dec=z55.F a0:=by kernel_rfl
def z57.C:Ctx where
 T:=tab
 draws:=λf i=>match f,i with|246,1=>([(6,[(2,0)],0),(7,[(5,1)],1),(8,[(3,0)],0),(9,[(7,3)],4),(10,[(6,2),(8,4)],15),(11,[(2,0)],0),(12,[(10,6)],32),(13,[(3,0)],0),(14,[(12,8)],128),(15,[(11,7),(13,9)],480),(16,[(9,5),(14,10)],1023),(0,[(4,0),(15,11)],2047)],65504)|_,_=>([],0)
 call:=Qh [(206,z36.pack),(52,z30.pack)]
theorem z57.link (a0:J0) (a1:Bool) (a2:J0) (a3:Bool):z57.C.evTop 246 (ifun Tryz.f246) [(.agg [(.ints false .u64 a0),(.bool a1)]),(.agg [(.ints false .u64 a2),(.bool a3)])] z41.dec=z57.F a0 a1 a2 a3:=by kernel_rfl
def z59.C:Ctx where
 T:=tab
 draws:=λf i=>match f,i with|220,2=>([(12,[(2,0)],0),(13,[(5,0)],0),(14,[(11,1),(12,2)],3),(15,[(3,0)],0),(16,[(5,0)],0),(17,[(14,4),(15,5)],31),(18,[(13,3),(16,6)],63),(5,[(17,7)],127)],260112)|_,_=>([],0)
 call:=Qh [(243,z58.pack),(241,z43.pack)]
theorem z59.link (a0:J0) (a1:Bool) (a2:Int) (a3:J0) (a4:Bool) (a5:Int):z59.C.evTop 220 (ifun Tryz.f220) [(.agg [(.ints false .u64 a0),(.bool a1),(.int .i64 a2)]),(.agg [(.ints false .u64 a3),(.bool a4),(.int .i64 a5)])] z13.dec=z59.F a0 a1 a2 a3 a4 a5:=by kernel_rfl
def z62.C:Ctx where
 T:=tab
 draws:=λf i=>match f,i with|253,1=>([(15,[(2,0)],0),(16,[(14,1)],1),(17,[(3,0)],0),(18,[(15,2),(16,3)],7),(6,[],0),(0,[(5,5),(17,4)],31)],245792)|253,2=>([(20,[(2,0)],0),(21,[(19,1)],1),(22,[(5,0)],0),(23,[(20,2),(21,3)],7),(19,[(22,4)],15),(24,[(18,5)],31),(25,[(18,5)],31),(26,[(18,5)],31),(7,[],0),(8,[],0),(0,[(6,9),(23,6)],831),(0,[(7,10),(24,7)],1919),(9,[(25,8)],4095)],66847168)|253,4=>([(35,[(9,0)],0),(36,[],0),(37,[(35,2)],2),(38,[(34,1),(36,3)],7),(34,[(37,4)],15),(39,[(33,5)],31),(40,[(33,5)],31),(13,[],0),(0,[(12,8),(38,6)],191),(14,[(39,7)],511)],1090921705472)|253,5=>([(41,[(6,0)],0),(42,[(2,0)],0),(43,[(41,2)],2),(44,[(42,3)],6),(45,[(40,1),(43,4)],15),(46,[(12,0)],0),(47,[(44,5),(45,6)],63),(0,[(4,0),(46,7)],127)],139637976727552)|_,_=>([],0)
 call:=Qh [(254,z60.pack),(258,z61.pack),(107,z25.pack),(108,z15.pack),(54,z39.pack),(16,z29.pack),(52,z30.pack)]
theorem z62.link (a0:J0) (a1:Bool) (a2:J0):z62.C.evTop 253 (ifun Tryz.f253) [(.agg [(.ints false .u64 a0),(.bool a1)]),(.agg [(.ints false .u64 a2)])] z68.dec=z62.F a0 a1 a2:=by kernel_rfl
def z65.C:Ctx where
 T:=tab
 draws:=λf i=>match f,i with|255,1=>([(4,[(1,0)],0),(5,[(3,1)],1),(6,[],0),(7,[(5,3)],4),(8,[(4,2),(6,4)],15),(0,[(2,0),(7,5)],31)],248)|_,_=>([],0)
 call:=Qh [(108,z15.pack),(53,z35.pack)]
theorem z65.link (a0:J0) (a1:Bool) (a2:J0):z65.C.evTop 255 (ifun Tryz.f255) [(.agg [(.ints false .u64 a0),(.bool a1),(.ints false .u64 a2)])] z14.dec=z65.F a0 a1 a2:=by kernel_rfl
def z67.C:Ctx where
 T:=tab
 draws:=λf i=>match f,i with|222,1=>([(7,[(2,0)],0),(8,[(6,1)],1),(9,[(3,0)],0),(10,[(8,3)],4),(11,[(7,2),(9,4)],15),(12,[(2,0)],0),(13,[(11,6)],63),(14,[(3,0)],0),(15,[(13,8)],128),(16,[(12,7),(14,9)],511),(17,[(10,5),(15,10)],1023),(18,[(16,11)],2047),(19,[(16,11)],2047),(0,[(4,0),(17,12)],8191),(6,[(18,13)],16383)],524256)|_,_=>([],0)
 call:=Qh [(247,z66.pack),(246,z57.pack),(244,z63.pack)]
theorem z67.link (a0:J0) (a1:Bool) (a2 a3:J0) (a4:Bool) (a5:J0):z67.C.evTop 222 (ifun Tryz.f222) [(.agg [(.ints false .u64 a0),(.bool a1),(.ints false .u64 a2)]),(.agg [(.ints false .u64 a3),(.bool a4),(.ints false .u64 a5)])] z69.dec=z67.F a0 a1 a2 a3 a4 a5:=by kernel_rfl
def z70.C:Ctx where
 T:=tab
 call:=Qh [(176,z48.pack),(177,z69.pack)]
theorem z70.link (a0 a1 a2 a3:Int) (a4:J1):z70.C.evTop 134 (ifun Tryz.f134) [(.agg [(.int .i64 a0),(.int .i64 a1),(.int .i64 a2),(.int .i64 a3),(.str a4)])] z13.dec=z70.F a0 a1 a2 a3 a4:=by kernel_rfl
def z71.C:Ctx where
 T:=tab
 call:=Qh [(171,z50.pack),(214,z53.pack),(215,z54.pack)]
theorem z71.link (a0:J1):z71.C.evTop 174 (ifun Tryz.f174) [(.str a0)] z38.dec=z71.F a0:=by kernel_rfl
def z76.C:Ctx where
 T:=tab
def z76.dec:V->Option ((List J1))
 |(.strs _ x0)=>some x0
 |_=>none
theorem z76.link:z76.C.evTop 123 (ifun Tryz.f123) [] z76.dec=z76.F:=by kernel_rfl
def z77.C:Ctx where
 T:=tab
theorem z77.link (a0:Int):z77.C.evTop 216 (ifun Tryz.f216) [(.int .i64 a0)] z8.dec=z77.F a0:=by kernel_rfl
def z81.l0sh:Env×Store:=((.str ([]:J1)) :: .undef::(.int .i64 0)::(.bool false)::(.int .i64 0) :: .undef :: .undef::(.int .i64 0)::(.int .i64 0)::un 22 [],[])
def z81.l0so1:Env×Store:=(.undef :: .undef::(.int .i64 0)::(.bool false)::un 27 [],[])
def z81.l0out0 (a:J1) (c:Int) (d:Bool) (e g h:Int) (o:Int×Int):X×Env×Store:=((.exit 0),Qa z81.l0sh [.s a,.i c,.b d,.i o.1,.i g,.i o.2])
def z81.l0out1 (a:J1) (c:Int) (d:Bool) (e g h:Int) (o:Int×Bool):X×Env×Store:=(.ret,Qa z81.l0so1 [.i o.1,.b o.2])
def z81.l0pack:List Leaf->Option LPack
 |[.s a,.i c,.b d,.i e,.i g,.i h]=>some (.two _ _ (z81.l0 a g (e,h)) (z81.l0out0 a c d e g h) (z81.l0out1 a c d e g h))
 |_=>none
def z81.C:Ctx where
 T:=tab
 keep:=λf i=>match f,i with|173,0=>([0,2,3,4,7,8],[],[])|_,_=>([],[],[])
 keepR:=λf i=>match f,i with|173,0=>([2,3],[],[2,3])|_,_=>([],[],[])
 L:=λf i b st=>match f,i,b with|173,0,0=>(matchSt z81.l0sh st).bind z81.l0pack|_,_,_=>none
def z81.dec:V->Option (Int×Bool)
 |(.tup [(.int .i64 x0),(.bool x1)])=>some (x0,x1)
 |_=>none
theorem z81.l0_link (R:Type) (k:Env×Store->Option R) (d:X×Env×Store->Option R) (a:J1) (c:Int) (e:Bool) (g h j:Int) :
  z81.C.loopP 173 0 (Qf 0 (ifun Tryz.f173).body) 0 k d (Qa z81.l0sh [.s a,.i c,.b e,.i g,.i h,.i j]) =
  z81.l0P a h (λx'=>k (Qa z81.l0sh [.s a,.i c,.b e,.i x'.1,.i h,.i x'.2])) (λo=>match o with | .inl o=>d (z81.l0out0 a c e g h j o) | .inr o=>d (z81.l0out1 a c e g h j o)) (g,j):=by kernel_rfl
theorem z81.link (a0:J1):z81.C.evTop 173 (ifun Tryz.f173) [(.str a0)] z81.dec=z81.F a0:=by kernel_rfl
def z82.C:Ctx where
 T:=tab
 call:=Qh [(173,z81.pack),(133,z80.pack)]
def z82.dec:V->Option (Int×Int×Int×Int)
 |(.tup [(.agg [(.int .i64 x0),(.int .i64 x1),(.int .i64 x2)]),(.int .i64 x3)])=>some (x0,x1,x2,x3)
 |_=>none
theorem z82.link (a0:J1):z82.C.evTop 124 (ifun Tryz.f124) [(.str a0)] z82.dec=z82.F a0:=by kernel_rfl
def z84.C:Ctx where
 T:=tab
 call:=Qh [(91,z31.pack)]
theorem z84.link (a0 a1:J1):z84.C.evTop 43 (ifun Tryz.f43) [(.str a0),(.str a1)] z8.dec=z84.F a0 a1:=by kernel_rfl
def z89.C:Ctx where
 T:=tab
 call:=Qh [(165,z87.pack),(168,z88.pack)]
theorem z89.link (a0:Int):z89.C.evTop 167 (ifun Tryz.f167) [(.int .i32 a0)] z8.dec=z89.F a0:=by kernel_rfl
def z90.C:Ctx where
 T:=tab
 call:=Qh [(168,z88.pack)]
theorem z90.link (a0:Int):z90.C.evTop 169 (ifun Tryz.f169) [(.int .i32 a0)] z8.dec=z90.F a0:=by kernel_rfl
def z94.C:Ctx where
 T:=tab
 call:=Qh [(213,z93.pack)]
theorem z94.link (a0:J1) (a1:Int):z94.C.evTop 172 (ifun Tryz.f172) [(.str a0),(.int .i32 a1)] z8.dec=z94.F a0 a1:=by kernel_rfl
def z96.l0sh:Env×Store:=((.str ([]:J1)) :: .undef::(.sref 0 0)::(.int .i64 0)::(.int .i64 0)::(.sref 1 0)::(.int .i64 0)::un 40 [],[(.arr 0 true 142 (.recs false 3 [])),(.arr 0 true 142 (.recs false 3 []))])
def z96.l0so1:Env×Store:=(.undef :: .undef::(.recs false 3 [])::(.int .i64 0)::(.int .i64 0)::un 42 [],[(.arr 0 true 142 (.recs false 3 [])),(.arr 0 true 142 (.recs false 3 []))])
def z96.l0out0 (a:J1) (b c d:Int) (e g:J2) (o:Int×J2):X×Env×Store:=((.exit 0),Qa z96.l0sh [.s a,.i b,.i c,.i o.1,.lr e,.lr o.2])
def z96.l0out1 (a:J1) (b c d:Int) (e g:J2) (o:J2×Int×Int×J2):X×Env×Store:=(.ret,Qa z96.l0so1 [.lr o.1,.i o.2.1,.i o.2.2.1,.lr e,.lr o.2.2.2])
def z96.l0pack:List Leaf->Option LPack
 |[.s a,.i b,.i c,.i d,.lr e,.lr g]=>some (.two _ _ (z96.l0 a (d,g)) (z96.l0out0 a b c d e g) (z96.l0out1 a b c d e g))
 |_=>none
def z96.C:Ctx where
 T:=tab
 call:=Qh [(119,z86.pack),(120,z95.pack)]
 keep:=λf i=>match f,i with|70,0=>([0,2,3,4,5,6],[0,1],[])|_,_=>([],[],[])
 keepR:=λf i=>match f,i with|70,0=>([2,3,4],[0,1],[2,3,4])|_,_=>([],[],[])
 L:=λf i b st=>match f,i,b with|70,0,0=>(matchSt z96.l0sh st).bind z96.l0pack|_,_,_=>none
def z96.dec:V->Option (J2×Int×Int)
 |(.tup [(.recs _ 3 x0),(.int .i64 x1),(.int .i64 x2)])=>some (x0,x1,x2)
 |_=>none
theorem z96.l0_link (R:Type) (k:Env×Store->Option R) (d:X×Env×Store->Option R) (a:J1) (b c e:Int) (g h:J2) :
  z96.C.loopP 70 0 (Qf 0 (ifun Tryz.f70).body) 2 k d (Qa z96.l0sh [.s a,.i b,.i c,.i e,.lr g,.lr h]) =
  z96.l0P a (λx'=>k (Qa z96.l0sh [.s a,.i b,.i c,.i x'.1,.lr g,.lr x'.2])) (λo=>match o with | .inl o=>d (z96.l0out0 a b c e g h o) | .inr o=>d (z96.l0out1 a b c e g h o)) (e,h):=by kernel_rfl
theorem z96.link (a0:J1):z96.C.evTop 70 (ifun Tryz.f70) [(.str a0)] z96.dec=z96.F a0:=by kernel_rfl
def z112.C:Ctx where
 T:=tab
theorem z112.link (a0:J0) (a1:Bool):z112.C.evTop 69 (ifun Tryz.f69) [(.ints false .i64 a0),(.bool a1)] z114.dec=z112.F a0 a1:=by kernel_rfl
def z122.C:Ctx where
 T:=tab
 call:=Qh [(111,z121.pack),(69,z112.pack)]
theorem z122.link (a0:J1):z122.C.evTop 57 (ifun Tryz.f57) [(.str a0)] z114.dec=z122.F a0:=by kernel_rfl
def z128.l0sh:Env×Store:=((.ints false .i64 [])::(.ints false .i64 []) :: .undef :: .undef::(.sref 0 0)::(.sref 1 0)::(.int .i64 0)::(.int .i64 0)::un 39 [],[(.arr 0 true 3 (.ints false .i64 [])),(.arr 0 true 3 (.ints false .i64 []))])
def z128.l0out0 (a b:J0) (c d:Int) (e g:J0) (o:Int×Int×J0):X×Env×Store:=((.exit 0),Qa z128.l0sh [.li a,.li b,.i o.1,.i o.2.1,.li e,.li o.2.2])
def z128.l0pack:List Leaf->Option LPack
 |[.li a,.li b,.i c,.i d,.li e,.li g]=>some (.one _ (z128.l0 a b (c,d,g)) (z128.l0out0 a b c d e g))
 |_=>none
def z128.C:Ctx where
 T:=tab
 call:=Qh [(159,z127.pack),(158,z120.pack)]
 keep:=λf i=>match f,i with|112,0=>([0,1,4,5,6,7],[0,1],[])|_,_=>([],[],[])
 keepR:=λf i=>match f,i with|112,0=>([4],[0,1],[4])|_,_=>([],[],[])
 L:=λf i b st=>match f,i,b with|112,0,0=>(matchSt z128.l0sh st).bind z128.l0pack|_,_,_=>none
theorem z128.l0_link (R:Type) (k:Env×Store->Option R) (d:X×Env×Store->Option R) (a b:J0) (c e:Int) (g h:J0) :
  z128.C.loopP 112 0 (Qf 0 (ifun Tryz.f112).body) 2 k d (Qa z128.l0sh [.li a,.li b,.i c,.i e,.li g,.li h]) =
  z128.l0P a b (λx'=>k (Qa z128.l0sh [.li a,.li b,.i x'.1,.i x'.2.1,.li g,.li x'.2.2])) (λo=>d (z128.l0out0 a b c e g h o)) (c,e,h):=by kernel_rfl
theorem z128.link (a0 a1:J0):z128.C.evTop 112 (ifun Tryz.f112) [(.ints false .i64 a0),(.ints false .i64 a1)] z113.dec=z128.F a0 a1:=by kernel_rfl
def z131.C:Ctx where
 T:=tab
 call:=Qh [(112,z128.pack),(69,z112.pack),(113,z129.pack),(114,z130.pack)]
theorem z131.link (a0:J0) (a1:Bool) (a2:J0) (a3:Bool):z131.C.evTop 58 (ifun Tryz.f58) [(.agg [(.ints false .i64 a0),(.bool a1)]),(.agg [(.ints false .i64 a2),(.bool a3)])] z114.dec=z131.F a0 a1 a2 a3:=by kernel_rfl
def z133.C:Ctx where
 T:=tab
theorem z133.link (a0:J0) (a1:Bool):z133.C.evTop 187 (ifun Tryz.f187) [(.agg [(.ints false .i64 a0),(.bool a1)])] z13.dec=z133.F a0 a1:=by kernel_rfl
def z139.C:Ctx where
 T:=tab
 call:=Qh [(145,z21.pack)]
theorem z139.link (a0 a1:Int):z139.C.evTop 86 (ifun Tryz.f86) [(.int .u64 a0),(.int .u64 a1)] z19.dec=z139.F a0 a1:=by kernel_rfl
def z143.C:Ctx where
 T:=tab
 call:=Qh [(87,z142.pack)]
theorem z143.link (a0 a1:J1):z143.C.evTop 35 (ifun Tryz.f35) [(.str a0),(.str a1)] z28.dec=z143.F a0 a1:=by kernel_rfl
end
end Go.Proofs.YtjfipepaaddlmaaGreatDoor.A
end
