/- Part 3 of the proof of ScriptBack.card. -/
import Derived.Test.YtjfipepaaddlmaaGreatDoorCt2
import Derived.Test.YtjfipepaaddlmaaGreatDoorRows
import Derived.WalkKit
import Derived.ProofKit
import Derived.OpenShut
import Derived.Carry
import Derived.ChangeSame
import Derived.Deep.Slices
import Derived.Test.YtjfipepaaddlmaaGreatDoorCards
import Derived.Test.YtjfipepaaddlmaaGreatDoorTie
import Derived.KernelRfl
import Derived.JoinedCond
set_option linter.unusedVariables false
set_option linter.unusedSimpArgs false
section
set_option maxRecDepth 100000
namespace Go.Proofs.YtjfipepaaddlmaaGreatDoor.A
open Go
noncomputable section
abbrev Sn (k:List V->Option Pack) (n:FuncId):Prop:=∀vs p,k vs=some p->SoundC Tryz.prog n vs p
theorem Qd:tab.check Tryz.prog=true:=by kernel_rfl
def tabC:Ctx where
 T:=tab
theorem Qe:Tryz.prog.follows .mixedOrders=true:=by kernel_rfl
theorem z7.inlF:InlF Tryz.prog z7.C where
 prim g h hp:=by simp [z7.C] at hp
 fn g fn h:=by simp [z7.C] at h
 loops g fn h:=by simp [z7.C] at h
theorem z7.sound:SoundP Tryz.prog 121 (blkP [139] z7.pk):=by
 refine Qei Qd Qe rfl Qw z7.inlF ⟨Tryz.func121,rfl,by kernel_rfl⟩ rfl λcss rest p h=>?_
 unfold z7.pk at h;split at h<;>cases h
 exact ⟨_,_,z7.dec,rfl,rfl,z7.link _ _ _,λv css' r h=>by unfold z7.dec at h;split at h<;>cases h;exact ⟨rfl,rfl,rfl⟩⟩
theorem z8.hdec:Wd z22.dec z8.enc:=by
 intro v r h
 unfold z22.dec at h;split at h<;>cases h
 exact ⟨rfl,rfl⟩
theorem z8.sound:Sn z8.pack 60:=by
 intro vs p h;unfold z8.pack at h;split at h<;>cases h
 exact Qi Qd Qe rfl rfl rfl rfl Qw ⟨Tryz.func60,rfl,by kernel_rfl⟩ rfl (z8.link _) z8.hdec
theorem z9.sound:Sn z9.pack 195:=by
 intro vs p h;unfold z9.pack at h;split at h<;>cases h
 exact Qi Qd Qe rfl rfl rfl rfl Qw ⟨Tryz.func195,rfl,by kernel_rfl⟩ rfl (z9.link _) z8.hdec
theorem z10.hdec:Wd z29.dec z10.enc:=by
 intro v r h
 unfold z29.dec at h;split at h<;>cases h
 exact ⟨rfl,rfl⟩
theorem z10.sound:Sn z10.pack 153:=by
 intro vs p h;unfold z10.pack at h;split at h<;>cases h
 exact Qi Qd Qe rfl rfl rfl rfl (Qa z9.sound Qh) ⟨Tryz.func153,rfl,by kernel_rfl⟩ rfl (z10.link _ _) z10.hdec
theorem z11.sound:Sn z11.pack 196:=by
 intro vs p h;unfold z11.pack at h;split at h<;>cases h
 exact Qi Qd Qe rfl rfl rfl rfl Qw ⟨Tryz.func196,rfl,by kernel_rfl⟩ rfl (z11.link _) z8.hdec
theorem z12.sound:Sn z12.pack 154:=by
 intro vs p h;unfold z12.pack at h;split at h<;>cases h
 exact Qi Qd Qe rfl rfl rfl rfl (Qa z11.sound Qh) ⟨Tryz.func154,rfl,by kernel_rfl⟩ rfl (z12.link _ _) z10.hdec
theorem z13.l0_sound (hI:InlOK Tryz.prog z13.C λR=>z13.C.inlK 6):Ql z13.C 6 105 0 0 (Qg 0 (ifun Tryz.f105).body) z13.l0sh z13.l0pack:=by
 refine Qo λls p h=>?_
 unfold z13.l0pack at h;split at h<;>cases h
 rename_i a b c e
 exact Yc hI (sh:=z13.l0sh) (so:=z13.l0sh) (so':=z13.l0so1) (F:=λR rec done x=>z13.l0P c e rec done x) (enc:=λ(x':Int)=>Qb z13.l0sh [.i a,.i x',.li c,.li e]) (.exit 0) [1] [1] [0] b (by kernel_rfl) (by kernel_rfl) (λx=>by kernel_rfl) (λo=>by kernel_rfl) (λo=>by kernel_rfl) λR k d x'=>z13.l0_link R k d a (x') c e
theorem Qok:Qr (ifun Tryz.f105).body=true:=by kernel_rfl
theorem z13.loopsT (hI:InlOK Tryz.prog z13.C λR=>z13.C.inlK 6):LoopsOK z13.C (λR=>z13.C.inlK 6) 105 0 (ifun Tryz.f105).body:=by
 intro id b hm st p hp
 obtain rfl:=Qt Qok hm
 unfold z13.C at hp
 simp only at hp
 try split at hp
 all_goals first
  |(simp at hp;done)
  |(exfalso;omega)
  |exact z13.l0_sound hI st p hp
theorem z13.sound:Sn z13.pack 105:=by
 intro vs p h;unfold z13.pack at h;split at h<;>cases h
 exact Q7 Qd Qe rfl rfl rfl (Qa z10.sound (Qa z12.sound Qh)) ⟨Tryz.func105,rfl,by kernel_rfl⟩ z13.loopsT rfl (z13.link _ _) z10.hdec
theorem z14.l0_sound (hI:InlOK Tryz.prog z14.C λR=>z14.C.inlK 6):Ql z14.C 6 104 0 0 (Qg 0 (ifun Tryz.f104).body) z14.l0sh z14.l0pack:=by
 refine Qo λls p h=>?_
 unfold z14.l0pack at h;split at h<;>cases h
 rename_i a b c
 exact Qv hI (sh:=z14.l0sh) (so:=z14.l0sh) (F:=λR rec done x=>z14.l0P a rec done x) (enc:=λ(x':Int)=>Qb z14.l0sh [.li a,.i x',.li c]) [1] [1] b (by kernel_rfl) (by kernel_rfl) (λx=>by kernel_rfl) (λo=>by kernel_rfl) λR k d x'=>z14.l0_link R k d a (x') c
theorem Qpd:Qr (ifun Tryz.f104).body=true:=by kernel_rfl
theorem z14.loopsT (hI:InlOK Tryz.prog z14.C λR=>z14.C.inlK 6):LoopsOK z14.C (λR=>z14.C.inlK 6) 104 0 (ifun Tryz.f104).body:=by
 intro id b hm st p hp
 obtain rfl:=Qt Qpd hm
 unfold z14.C at hp
 simp only at hp
 try split at hp
 all_goals first
  |(simp at hp;done)
  |(exfalso;omega)
  |exact z14.l0_sound hI st p hp
theorem z14.hdec:Wd z14.dec z14.enc:=by
 intro v r h
 unfold z14.dec at h;split at h<;>cases h
 exact ⟨rfl,rfl⟩
theorem z14.sound:Sn z14.pack 104:=by
 intro vs p h;unfold z14.pack at h;split at h<;>cases h
 exact Q7 Qd Qe rfl rfl rfl Qw ⟨Tryz.func104,rfl,by kernel_rfl⟩ z14.loopsT rfl (z14.link _) z14.hdec
theorem prim157:SoundP Tryz.prog 157 (cloneP (.ints true .u64 []) 183 8):=Qmo (C:=tabC) Qd (f:=Tryz.f157) (t:=35) ⟨Tryz.func157,rfl,by kernel_rfl⟩ rfl (by decide) (by kernel_rfl) (by kernel_rfl) (by kernel_rfl) (by decide) (by kernel_rfl) rfl rfl (by kernel_rfl)
theorem z15.inlF:InlF Tryz.prog z15.C where
 prim g h hp:=by
  unfold z15.C at hp;simp only at hp;split at hp
  ·simp only [Option.some.injEq] at hp;subst hp;exact prim157
  ·simp at hp
 fn g fn h:=by simp [z15.C] at h
 loops g fn h:=by simp [z15.C] at h
theorem z15.sound:Sn z15.pack 108:=by
 intro vs p h;unfold z15.pack at h;split at h<;>cases h
 exact Wy Qd Qe rfl (Qa z14.sound Qh) z15.inlF ⟨Tryz.func108,rfl,by kernel_rfl⟩ (λ_=>noLoops rfl _ _ _ _) rfl (z15.link _) z14.hdec
theorem fun109:FunOK Tryz.prog 109 Tryz.f109 (ifun Tryz.f109).body:=⟨Tryz.func109,rfl,by kernel_rfl⟩
theorem z16.inlF:InlF Tryz.prog z16.C where
 prim g h hp:=by
  unfold z16.C at hp;simp only at hp;split at hp
  ·simp only [Option.some.injEq] at hp;subst hp;exact prim157
  ·simp at hp
 fn g fn h:=by simp [z16.C] at h
 loops g fn h:=by simp [z16.C] at h
theorem z16.sound:Sn z16.pack 109:=by
 intro vs p h;unfold z16.pack at h;split at h<;>cases h
 exact Wy Qd Qe rfl Qw z16.inlF fun109 (λ_=>noLoops rfl _ _ _ _) rfl (z16.link _) (by intro v r h;unfold z16.dec at h;split at h<;>cases h;exact ⟨rfl,rfl⟩)
theorem z17.sound:Sn z17.pack 232:=by
 intro vs p h;unfold z17.pack at h;split at h<;>cases h
 exact Qi Qd Qe rfl rfl rfl rfl Qw ⟨Tryz.func232,rfl,by kernel_rfl⟩ rfl (z17.link _) z10.hdec
theorem z18.sound:Sn z18.pack 198:=by
 intro vs p h;unfold z18.pack at h;split at h<;>cases h
 exact Qi Qd Qe rfl rfl rfl rfl (Qa z17.sound Qh) ⟨Tryz.func198,rfl,by kernel_rfl⟩ rfl (z18.link _) z10.hdec
theorem z19.l0_sound (hI:InlOK Tryz.prog z19.C λR=>z19.C.inlK 6):Ql z19.C 6 197 0 0 (Qg 0 (ifun Tryz.f197).body) z19.l0sh z19.l0pack:=by
 refine Qo λls p h=>?_
 unfold z19.l0pack at h;split at h<;>cases h
 rename_i a b c e g j m n q r s
 exact Qv hI (sh:=z19.l0sh) (so:=z19.l0sh) (F:=λR rec done x=>z19.l0P g j n rec done x) (enc:=λ(x':(Int×Int))=>Qb z19.l0sh [.i a,.i b,.i c,.i e,.i g,.i j,.i m,.i n,.i q,.i x'.1,.i x'.2]) [9,10] [9,10] (r,s) (by kernel_rfl) (by kernel_rfl) (λx=>by kernel_rfl) (λo=>by kernel_rfl) λR k d x'=>z19.l0_link R k d a b c e g j m n q (x'.1) (x'.2)
theorem z19.l2_sound (hI:InlOK Tryz.prog z19.C λR=>z19.C.inlK 6):Ql z19.C 6 197 2 0 (Qg 2 (ifun Tryz.f197).body) z19.l2sh z19.l2pack:=by
 refine Qo λls p h=>?_
 unfold z19.l2pack at h;split at h<;>cases h
 rename_i a b c e g j m n q r s
 exact Qv hI (sh:=z19.l2sh) (so:=z19.l2sh) (F:=λR rec done x=>z19.l2P g j m rec done x) (enc:=λ(x':(Int×Int))=>Qb z19.l2sh [.i a,.i b,.i c,.i e,.i g,.i j,.i m,.i n,.i x'.1,.i r,.i x'.2]) [8,10] [8,10] (q,s) (by kernel_rfl) (by kernel_rfl) (λx=>by kernel_rfl) (λo=>by kernel_rfl) λR k d x'=>z19.l2_link R k d a b c e g j m n (x'.1) r (x'.2)
theorem Qr1:Qr (ifun Tryz.f197).body=true:=by kernel_rfl
theorem z19.loopsT (hI:InlOK Tryz.prog z19.C λR=>z19.C.inlK 6):LoopsOK z19.C (λR=>z19.C.inlK 6) 197 0 (ifun Tryz.f197).body:=by
 intro id b hm st p hp
 obtain rfl:=Qt Qr1 hm
 unfold z19.C at hp
 simp only at hp
 try split at hp
 all_goals first
  |(simp at hp;done)
  |(exfalso;omega)
  |exact z19.l0_sound hI st p hp
  |exact z19.l2_sound hI st p hp
theorem z19.hdec:Wd z19.dec z19.enc:=by
 intro v r h
 unfold z19.dec at h;split at h<;>cases h
 exact ⟨rfl,rfl⟩
theorem z19.sound:Sn z19.pack 197:=by
 intro vs p h;unfold z19.pack at h;split at h<;>cases h
 exact Q7 Qd Qe rfl rfl rfl (Qa z18.sound Qh) ⟨Tryz.func197,rfl,by kernel_rfl⟩ z19.loopsT rfl (z19.link _ _ _) z19.hdec
theorem z20.l0_sound (hI:InlOK Tryz.prog z20.C λR=>z20.C.inlK 6):Ql z20.C 6 155 0 0 (Qg 0 (ifun Tryz.f155).body) z20.l0sh z20.l0pack:=by
 refine Qo λls p h=>?_
 unfold z20.l0pack at h;split at h<;>cases h
 rename_i a b c e g j m
 exact Qv hI (sh:=z20.l0sh) (so:=z20.l0sh) (F:=λR rec done x=>z20.l0P a b rec done x) (enc:=λ(x':(Int×Int×J0))=>Qb z20.l0sh [.li a,.i b,.i c,.i x'.1,.i x'.2.1,.li j,.li x'.2.2]) [3,4,6] [3,4,6] (e,g,m) (by kernel_rfl) (by kernel_rfl) (λx=>by kernel_rfl) (λo=>by kernel_rfl) λR k d x'=>z20.l0_link R k d a b c (x'.1) (x'.2.1) j (x'.2.2)
theorem Qr2:Qr (ifun Tryz.f155).body=true:=by kernel_rfl
theorem z20.loopsT (hI:InlOK Tryz.prog z20.C λR=>z20.C.inlK 6):LoopsOK z20.C (λR=>z20.C.inlK 6) 155 0 (ifun Tryz.f155).body:=by
 intro id b hm st p hp
 obtain rfl:=Qt Qr2 hm
 unfold z20.C at hp
 simp only at hp
 try split at hp
 all_goals first
  |(simp at hp;done)
  |(exfalso;omega)
  |exact z20.l0_sound hI st p hp
theorem z20.sound:Sn z20.pack 155:=by
 intro vs p h;unfold z20.pack at h;split at h<;>cases h
 exact Q7 Qd Qe rfl rfl rfl (Qa z19.sound Qh) ⟨Tryz.func155,rfl,by kernel_rfl⟩ z20.loopsT rfl (z20.link _ _) (by intro v r h;unfold z20.dec at h;split at h<;>cases h;exact ⟨rfl,rfl⟩)
theorem z21.sound:Sn z21.pack 145:=by
 intro vs p h;unfold z21.pack at h;split at h<;>cases h
 exact Qi Qd Qe rfl rfl rfl rfl Qw ⟨Tryz.func145,rfl,by kernel_rfl⟩ rfl (z21.link _ _) z19.hdec
theorem z22.sound:Sn z22.pack 233:=by
 intro vs p h;unfold z22.pack at h;split at h<;>cases h
 exact Qi Qd Qe rfl rfl rfl rfl Qw ⟨Tryz.func233,rfl,by kernel_rfl⟩ rfl (z22.link _) z8.hdec
theorem z23.l0_sound (hI:InlOK Tryz.prog z23.C λR=>z23.C.inlK 6):Ql z23.C 6 203 0 0 (Qg 0 (ifun Tryz.f203).body) z23.l0sh z23.l0pack:=by
 refine Qo λls p h=>?_
 unfold z23.l0pack at h;split at h<;>cases h
 rename_i a b c e g j m q
 exact Qv hI (sh:=z23.l0sh) (so:=z23.l0sh) (F:=λR rec done x=>z23.l0P b c e g rec done x) (enc:=λ(x':(Int×J0))=>Qb z23.l0sh [.i a,.n b,.n c,.i e,.i g,.i x'.1,.li m,.li x'.2]) [5,7] [5,7] (j,q) (by kernel_rfl) (by kernel_rfl) (λx=>by kernel_rfl) (λo=>by kernel_rfl) λR k d x'=>z23.l0_link R k d a b c e g (x'.1) m (x'.2)
theorem Qms:Qr (ifun Tryz.f203).body=true:=by kernel_rfl
theorem z23.loopsT (hI:InlOK Tryz.prog z23.C λR=>z23.C.inlK 6):LoopsOK z23.C (λR=>z23.C.inlK 6) 203 0 (ifun Tryz.f203).body:=by
 intro id b hm st p hp
 obtain rfl:=Qt Qms hm
 unfold z23.C at hp
 simp only at hp
 try split at hp
 all_goals first
  |(simp at hp;done)
  |(exfalso;omega)
  |exact z23.l0_sound hI st p hp
theorem z23.loops109 (hI:InlOK Tryz.prog z23.C λR=>z23.C.inlK 1) (base:Nat):LoopsOK z23.C (λR=>z23.C.inlK 1) 109 base (ifun Tryz.f109).body:=by
 intro id b hm st p hp
 exfalso
 unfold z23.C at hp
 simp only at hp
 try split at hp
 all_goals first|(simp at hp;done)|omega
theorem z23.inlF:InlF Tryz.prog z23.C where
 prim g h hp:=by
  unfold z23.C at hp;simp only at hp;split at hp
  ·simp only [Option.some.injEq] at hp;subst hp;exact prim157
  ·simp at hp
 fn g fn h:=by
  unfold z23.C at h;simp only at h;split at h
  ·simp only [Option.some.injEq] at h;subst h;exact ⟨_,_,fun109,rfl⟩
  ·simp at h
 loops g fn h:=by
  unfold z23.C at h;simp only at h;split at h
  ·simp only [Option.some.injEq] at h;subst h;exact λhI base=>z23.loops109 hI base
  ·simp at h
theorem z23.hdec:Wd z23.dec z23.enc:=by
 intro v r h
 unfold z23.dec at h;split at h<;>cases h
 exact ⟨rfl,rfl⟩
theorem z23.sound:Sn z23.pack 203:=by
 intro vs p h;unfold z23.pack at h;split at h<;>cases h
 exact Wy Qd Qe rfl (Qa z22.sound (Qa z15.sound Qh)) z23.inlF ⟨Tryz.func203,rfl,by kernel_rfl⟩ z23.loopsT rfl (z23.link _ _) z23.hdec
theorem z24.l0_sound (hI:InlOK Tryz.prog z24.C λR=>z24.C.inlK 0):Ql z24.C 0 199 0 2 (Qg 0 (ifun Tryz.f199).body) z24.l0sh z24.l0pack:=by
 refine Qo λls p h=>?_
 unfold z24.l0pack at h;split at h<;>cases h
 rename_i a b c e g j m n
 exact Qv hI (sh:=z24.l0sh) (so:=z24.l0sh) (F:=λR rec done x=>z24.l0P a b c rec done x) (enc:=λ(x':(Int×J0))=>Qb z24.l0sh [.i a,.li b,.i c,.i x'.1,.li g,.li j,.li m,.li x'.2]) [3,7] [3,7] (e,n) (by kernel_rfl) (by kernel_rfl) (λx=>by kernel_rfl) (λo=>by kernel_rfl) λR k d x'=>z24.l0_link R k d a b c (x'.1) g j m (x'.2)
theorem z24.l0a_sound (hI:InlOK Tryz.prog z24.C λR=>z24.C.inlK 0):Ql z24.C 0 199 0 4 (Qg 0 (ifun Tryz.f199).body) z24.l0ash z24.l0apack:=by
 refine Qo λls p h=>?_
 unfold z24.l0apack at h;split at h<;>cases h
 rename_i a b c e g j m n q r
 exact Qv hI (sh:=z24.l0ash) (so:=z24.l0ash) (F:=λR rec done x=>z24.l0aP a b c rec done x) (enc:=λ(x':(Int×J0))=>Qb z24.l0ash [.i a,.li b,.i c,.i x'.1,.li g,.li j,.li m,.li n,.li q,.li x'.2]) [3,9] [3,9] (e,r) (by kernel_rfl) (by kernel_rfl) (λx=>by kernel_rfl) (λo=>by kernel_rfl) λR k d x'=>z24.l0a_link R k d a b c (x'.1) g j m n q (x'.2)
theorem z24.l0b3_sound (hI:InlOK Tryz.prog z24.C λR=>z24.C.inlK 0):Ql z24.C 0 201 0 7 (Qg 0 (ifun Tryz.f201).body) z24.l0b3sh z24.l0b3pack:=by
 refine Qo λls p h=>?_
 unfold z24.l0b3pack at h;split at h<;>cases h
 rename_i a b c e g j m q r s t u v w y z A
 exact Qv hI (sh:=z24.l0b3sh) (so:=z24.l0b3sh) (F:=λR rec done x=>z24.l0b3P a b g r s t z rec done x) (enc:=λ(x':(Int×Int×Int×J0))=>Qb z24.l0b3sh [.n a,.n b,.n c,.n e,.i g,.i j,.i x'.1,.i x'.2.1,.n r,.n s,.i t,.i x'.2.2.1,.li v,.li w,.li x'.2.2.2,.li z,.li A]) [6,7,11,14] [6,7,11,14] (m,q,u,y) (by kernel_rfl) (by kernel_rfl) (λx=>by kernel_rfl) (λo=>by kernel_rfl) λR k d x'=>z24.l0b3_link R k d a b c e g j (x'.1) (x'.2.1) r s t (x'.2.2.1) v w (x'.2.2.2) z A
theorem z24.l0b4_sound (hI:InlOK Tryz.prog z24.C λR=>z24.C.inlK 0):Ql z24.C 0 202 0 7 (Qg 0 (ifun Tryz.f202).body) z24.l0b4sh z24.l0b4pack:=by
 refine Qo λls p h=>?_
 unfold z24.l0b4pack at h;split at h<;>cases h
 rename_i a b c e g j m q r s t u v w
 exact Qv hI (sh:=z24.l0b4sh) (so:=z24.l0b4sh) (F:=λR rec done x=>z24.l0b4P a b j m q v rec done x) (enc:=λ(x':(Int×Int×J0))=>Qb z24.l0b4sh [.n a,.n b,.n c,.n e,.i x'.1,.n j,.n m,.i q,.i x'.2.1,.li s,.li t,.li x'.2.2,.li v,.li w]) [4,8,11] [4,8,11] (g,r,u) (by kernel_rfl) (by kernel_rfl) (λx=>by kernel_rfl) (λo=>by kernel_rfl) λR k d x'=>z24.l0b4_link R k d a b c e (x'.1) j m q (x'.2.1) s t (x'.2.2) v w
theorem z24.l2_sound (hI:InlOK Tryz.prog z24.C λR=>z24.C.inlK 6):Ql z24.C 6 156 2 0 (Qg 2 (ifun Tryz.f156).body) z24.l2sh z24.l2pack:=by
 refine Qo λls p h=>?_
 unfold z24.l2pack at h;split at h<;>cases h
 rename_i a b c e g j m q r s t u v
 exact Qv hI (sh:=z24.l2sh) (so:=z24.l2sh) (F:=λR rec done x=>z24.l2P a b g j u rec done x) (enc:=λ(x':(Int×Int×J0))=>Qb z24.l2sh [.n a,.n b,.i c,.i e,.n g,.n j,.i x'.1,.i x'.2.1,.li r,.li s,.li x'.2.2,.li u,.li v]) [6,7,10] [6,7,10] (m,q,t) (by kernel_rfl) (by kernel_rfl) (λx=>by kernel_rfl) (λo=>by kernel_rfl) λR k d x'=>z24.l2_link R k d a b c e g j (x'.1) (x'.2.1) r s (x'.2.2) u v
theorem z24.l0aa_sound (hI:InlOK Tryz.prog z24.C λR=>z24.C.inlK 6):Ql z24.C 6 156 0 0 (Qg 0 (ifun Tryz.f156).body) z24.l0aash z24.l0aapack:=by
 refine Qo λls p h=>?_
 unfold z24.l0aapack at h;split at h<;>cases h
 rename_i a b c e g j m q r
 exact Qv hI (sh:=z24.l0aash) (so:=z24.l0aash) (F:=λR rec done x=>z24.l0aaP a b q rec done x) (enc:=λ(x':(Int×J0×J0))=>Qb z24.l0aash [.n a,.n b,.i c,.i x'.1,.li g,.li j,.li x'.2.1,.li q,.li x'.2.2]) [3,6,8] [3,6,8] (e,m,r) (by kernel_rfl) (by kernel_rfl) (λx=>by kernel_rfl) (λo=>by kernel_rfl) λR k d x'=>z24.l0aa_link R k d a b c (x'.1) g j (x'.2.1) q (x'.2.2)
theorem Qpp:Qr (ifun Tryz.f156).body=true:=by kernel_rfl
theorem Qp0:Qr (ifun Tryz.f199).body=true:=by kernel_rfl
theorem Qqw:Qr (ifun Tryz.f201).body=true:=by kernel_rfl
theorem Qmk:Qr (ifun Tryz.f202).body=true:=by kernel_rfl
theorem z24.loopsT (hI:InlOK Tryz.prog z24.C λR=>z24.C.inlK 6):LoopsOK z24.C (λR=>z24.C.inlK 6) 156 0 (ifun Tryz.f156).body:=by
 intro id b hm st p hp
 obtain rfl:=Qt Qpp hm
 unfold z24.C at hp
 simp only at hp
 try split at hp
 all_goals first
  |(simp at hp;done)
  |(exfalso;omega)
  |exact z24.l2_sound hI st p hp
  |exact z24.l0aa_sound hI st p hp
theorem z24.loops199 (hI:InlOK Tryz.prog z24.C λR=>z24.C.inlK 0) (base:Nat):LoopsOK z24.C (λR=>z24.C.inlK 0) 199 base (ifun Tryz.f199).body:=by
 intro id b hm st p hp
 obtain rfl:=Qt Qp0 hm
 unfold z24.C at hp
 simp only at hp
 by_cases hb2:base=2
 ·subst hb2
  try split at hp
  all_goals first
   |(simp at hp;done)
   |(exfalso;omega)
   |exact z24.l0_sound hI st p hp
 by_cases hb4:base=4
 ·subst hb4
  try split at hp
  all_goals first
   |(simp at hp;done)
   |(exfalso;omega)
   |exact z24.l0a_sound hI st p hp
 exfalso
 try split at hp
 all_goals first|(simp at hp;done)|omega
theorem z24.loops200 (hI:InlOK Tryz.prog z24.C λR=>z24.C.inlK 0) (base:Nat):LoopsOK z24.C (λR=>z24.C.inlK 0) 200 base (ifun Tryz.f200).body:=by
 intro id b hm st p hp
 exfalso
 unfold z24.C at hp
 simp only at hp
 try split at hp
 all_goals first|(simp at hp;done)|omega
theorem z24.loops201 (hI:InlOK Tryz.prog z24.C λR=>z24.C.inlK 0) (base:Nat):LoopsOK z24.C (λR=>z24.C.inlK 0) 201 base (ifun Tryz.f201).body:=by
 intro id b hm st p hp
 obtain rfl:=Qt Qqw hm
 unfold z24.C at hp
 simp only at hp
 try split at hp
 all_goals first
  |(simp at hp;done)
  |(exfalso;omega)
  |exact z24.l0b3_sound hI st p hp
theorem z24.loops202 (hI:InlOK Tryz.prog z24.C λR=>z24.C.inlK 0) (base:Nat):LoopsOK z24.C (λR=>z24.C.inlK 0) 202 base (ifun Tryz.f202).body:=by
 intro id b hm st p hp
 obtain rfl:=Qt Qmk hm
 unfold z24.C at hp
 simp only at hp
 try split at hp
 all_goals first
  |(simp at hp;done)
  |(exfalso;omega)
  |exact z24.l0b4_sound hI st p hp
theorem z24.inlF:InlF Tryz.prog z24.C where
 prim g h hp:=by simp [z24.C] at hp
 fn g fn h:=by
  unfold z24.C at h;simp only at h;split at h
  ·simp only [Option.some.injEq] at h;subst h;exact ⟨_,_,⟨Tryz.func199,rfl,by kernel_rfl⟩,rfl⟩
  ·simp only [Option.some.injEq] at h;subst h;exact ⟨_,_,⟨Tryz.func200,rfl,by kernel_rfl⟩,rfl⟩
  ·simp only [Option.some.injEq] at h;subst h;exact ⟨_,_,⟨Tryz.func201,rfl,by kernel_rfl⟩,rfl⟩
  ·simp only [Option.some.injEq] at h;subst h;exact ⟨_,_,⟨Tryz.func202,rfl,by kernel_rfl⟩,rfl⟩
  ·simp at h
 loops g fn h:=by
  unfold z24.C at h;simp only at h;split at h
  ·simp only [Option.some.injEq] at h;subst h;exact λhI base=>z24.loops199 hI base
  ·simp only [Option.some.injEq] at h;subst h;exact λhI base=>z24.loops200 hI base
  ·simp only [Option.some.injEq] at h;subst h;exact λhI base=>z24.loops201 hI base
  ·simp only [Option.some.injEq] at h;subst h;exact λhI base=>z24.loops202 hI base
  ·simp at h
theorem z24.sound:Sn z24.pack 156:=by
 intro vs p h;unfold z24.pack at h;split at h<;>cases h
 exact Wy Qd Qe rfl (Qa z18.sound (Qa z21.sound (Qa z0.sound (Qa z1.sound (Qa z19.sound (Qa z15.sound (Qa z23.sound (Qa z16.sound Qh)))))))) z24.inlF ⟨Tryz.func156,rfl,by kernel_rfl⟩ z24.loopsT rfl (z24.link _ _) (by intro v r h;unfold z24.dec at h;split at h<;>cases h;exact ⟨rfl,rfl⟩)
theorem z25.sound:Sn z25.pack 107:=by
 intro vs p h;unfold z25.pack at h;split at h<;>cases h
 exact Qi Qd Qe rfl rfl rfl rfl (Qa z8.sound (Qa z13.sound (Qa z16.sound (Qa z20.sound (Qa z15.sound (Qa z24.sound Qh)))))) ⟨Tryz.func107,rfl,by kernel_rfl⟩ rfl (z25.link _ _) (by intro v r h;unfold z25.dec at h;split at h<;>cases h;exact ⟨rfl,rfl⟩)
theorem z26.l0_sound (hI:InlOK Tryz.prog z26.C λR=>z26.C.inlK 6):Ql z26.C 6 110 0 0 (Qg 0 (ifun Tryz.f110).body) z26.l0sh z26.l0pack:=by
 refine Qo λls p h=>?_
 unfold z26.l0pack at h;split at h<;>cases h
 rename_i a b c e g
 exact Qv hI (sh:=z26.l0sh) (so:=z26.l0sh) (F:=λR rec done x=>z26.l0P b rec done x) (enc:=λ(x':(Int×Int×J0))=>Qb z26.l0sh [.i x'.1,.i b,.s c,.i x'.2.1,.li x'.2.2]) [0,3,4] [0,3,4] (a,e,g) (by kernel_rfl) (by kernel_rfl) (λx=>by kernel_rfl) (λo=>by kernel_rfl) λR k d x'=>z26.l0_link R k d (x'.1) b c (x'.2.1) (x'.2.2)
theorem Qpb:Qr (ifun Tryz.f110).body=true:=by kernel_rfl
theorem z26.loopsT (hI:InlOK Tryz.prog z26.C λR=>z26.C.inlK 6):LoopsOK z26.C (λR=>z26.C.inlK 6) 110 0 (ifun Tryz.f110).body:=by
 intro id b hm st p hp
 obtain rfl:=Qt Qpb hm
 unfold z26.C at hp
 simp only at hp
 try split at hp
 all_goals first
  |(simp at hp;done)
  |(exfalso;omega)
  |exact z26.l0_sound hI st p hp
theorem z26.hdec:Wd z26.dec z26.enc:=by
 intro v r h
 unfold z26.dec at h;split at h<;>cases h
 exact ⟨rfl,rfl⟩
theorem z26.sound:Sn z26.pack 110:=by
 intro vs p h;unfold z26.pack at h;split at h<;>cases h
 exact Q7 Qd Qe rfl rfl rfl Qw ⟨Tryz.func110,rfl,by kernel_rfl⟩ z26.loopsT rfl (z26.link _ _) z26.hdec
theorem z27.l2_sound (hI:InlOK Tryz.prog z27.C λR=>z27.C.inlK 6):Ql z27.C 6 55 2 0 (Qg 2 (ifun Tryz.f55).body) z27.l2sh z27.l2pack:=by
 refine Qo λls p h=>?_
 unfold z27.l2pack at h;split at h<;>cases h
 rename_i a b c e g j m n
 exact Qv hI (sh:=z27.l2sh) (so:=z27.l2sh) (F:=λR rec done x=>z27.l2P c e rec done x) (enc:=λ(x':(Int×Int))=>Qb z27.l2sh [.s a,.i x'.1,.li c,.i e,.i x'.2,.li j,.ls m,.li n]) [1,4] [1,4] (b,g) (by kernel_rfl) (by kernel_rfl) (λx=>by kernel_rfl) (λo=>by kernel_rfl) λR k d x'=>z27.l2_link R k d a (x'.1) c e (x'.2) j m n
theorem z27.l0_sound (hI:InlOK Tryz.prog z27.C λR=>z27.C.inlK 6):Ql z27.C 6 55 0 0 (Qg 0 (ifun Tryz.f55).body) z27.l0sh z27.l0pack:=by
 refine Qo λls p h=>?_
 unfold z27.l0pack at h;split at h<;>cases h
 rename_i a b c
 exact Qv hI (sh:=z27.l0sh) (so:=z27.l0sh) (F:=λR rec done x=>z27.l0P rec done x) (enc:=λ(x':(J0×(List J1)))=>Qb z27.l0sh [.s a,.li x'.1,.ls x'.2]) [1,2] [1,2] (b,c) (by kernel_rfl) (by kernel_rfl) (λx=>by kernel_rfl) (λo=>by kernel_rfl) λR k d x'=>z27.l0_link R k d a (x'.1) (x'.2)
theorem z27.l4_sound (hI:InlOK Tryz.prog z27.C λR=>z27.C.inlK 6):Ql z27.C 6 55 4 0 (Qg 4 (ifun Tryz.f55).body) z27.l4sh z27.l4pack:=by
 refine Qo λls p h=>?_
 unfold z27.l4pack at h;split at h<;>cases h
 rename_i a b c e
 exact Qv hI (sh:=z27.l4sh) (so:=z27.l4sh) (F:=λR rec done x=>z27.l4P c rec done x) (enc:=λ(x':(Int×J0))=>Qb z27.l4sh [.s a,.i x'.1,.ls c,.li x'.2]) [1,3] [1,3] (b,e) (by kernel_rfl) (by kernel_rfl) (λx=>by kernel_rfl) (λo=>by kernel_rfl) λR k d x'=>z27.l4_link R k d a (x'.1) c (x'.2)
theorem Qta:Qr (ifun Tryz.f55).body=true:=by kernel_rfl
theorem fun80:FunOK Tryz.prog 80 Tryz.f80 (ifun Tryz.f80).body:=⟨Tryz.func80,rfl,by kernel_rfl⟩
theorem fun78:FunOK Tryz.prog 78 Tryz.f78 (ifun Tryz.f78).body:=⟨Tryz.func78,rfl,by kernel_rfl⟩
theorem z27.loopsT (hI:InlOK Tryz.prog z27.C λR=>z27.C.inlK 6):LoopsOK z27.C (λR=>z27.C.inlK 6) 55 0 (ifun Tryz.f55).body:=by
 intro id b hm st p hp
 obtain rfl:=Qt Qta hm
 unfold z27.C at hp
 simp only at hp
 try split at hp
 all_goals first
  |(simp at hp;done)
  |(exfalso;omega)
  |exact z27.l2_sound hI st p hp
  |exact z27.l0_sound hI st p hp
  |exact z27.l4_sound hI st p hp
theorem z27.loops80 (hI:InlOK Tryz.prog z27.C λR=>z27.C.inlK 0) (base:Nat):LoopsOK z27.C (λR=>z27.C.inlK 0) 80 base (ifun Tryz.f80).body:=by
 intro id b hm st p hp
 exfalso
 unfold z27.C at hp
 simp only at hp
 try split at hp
 all_goals first|(simp at hp;done)|omega
theorem z27.loops78 (hI:InlOK Tryz.prog z27.C λR=>z27.C.inlK 1) (base:Nat):LoopsOK z27.C (λR=>z27.C.inlK 1) 78 base (ifun Tryz.f78).body:=by
 intro id b hm st p hp
 exfalso
 unfold z27.C at hp
 simp only at hp
 try split at hp
 all_goals first|(simp at hp;done)|omega
theorem prim135:SoundP Tryz.prog 135 (copyP 159):=Qnq
theorem z27.inlF:InlF Tryz.prog z27.C where
 prim g h hp:=by
  unfold z27.C at hp;simp only at hp;split at hp
  ·simp only [Option.some.injEq] at hp;subst hp;exact prim135
  ·simp at hp
 fn g fn h:=by
  unfold z27.C at h;simp only at h;split at h
  ·simp only [Option.some.injEq] at h;subst h;exact ⟨_,_,fun80,rfl⟩
  ·simp only [Option.some.injEq] at h;subst h;exact ⟨_,_,fun78,rfl⟩
  ·simp at h
 loops g fn h:=by
  unfold z27.C at h;simp only at h;split at h
  ·simp only [Option.some.injEq] at h;subst h;exact λhI base=>z27.loops80 hI base
  ·simp only [Option.some.injEq] at h;subst h;exact λhI base=>z27.loops78 hI base
  ·simp at h
theorem z27.sound:Sn z27.pack 55:=by
 intro vs p h;unfold z27.pack at h;split at h<;>cases h
 exact Wy Qd Qe rfl (Qa z8.sound (Qa z15.sound (Qa z25.sound (Qa z16.sound (Qa z26.sound Qh))))) z27.inlF ⟨Tryz.func55,rfl,by kernel_rfl⟩ z27.loopsT rfl (z27.link _) z26.hdec
theorem z28.sound:Sn z28.pack 13:=by
 intro vs p h;unfold z28.pack at h;split at h<;>cases h
 exact Qi Qd Qe rfl rfl rfl rfl (Qa z27.sound Qh) ⟨Tryz.func13,rfl,by kernel_rfl⟩ rfl (z28.link _ _) z26.hdec
theorem z29.sound:Sn z29.pack 16:=by
 intro vs p h;unfold z29.pack at h;split at h<;>cases h
 exact Qi Qd Qe rfl rfl rfl rfl (Qa z8.sound Qh) ⟨Tryz.func16,rfl,by kernel_rfl⟩ rfl (z29.link _ _) z10.hdec
theorem z30.hdec:Wd z42.dec z30.enc:=by
 intro v r h
 unfold z42.dec at h;split at h<;>cases h
 exact ⟨rfl,rfl⟩
theorem z30.sound:Sn z30.pack 52:=by
 intro vs p h;unfold z30.pack at h;split at h<;>cases h
 exact Qi Qd Qe rfl rfl rfl rfl (Qa z8.sound Qh) ⟨Tryz.func52,rfl,by kernel_rfl⟩ rfl (z30.link _ _) z30.hdec
theorem z31.sound:Sn z31.pack 91:=by
 intro vs p h;unfold z31.pack at h;split at h<;>cases h
 exact Qi Qd Qe rfl rfl rfl rfl Qw ⟨Tryz.func91,rfl,by kernel_rfl⟩ rfl (z31.link _ _) z8.hdec
theorem z32.hdec:Wd z33.dec z32.enc:=by
 intro v r h
 unfold z33.dec at h;split at h<;>cases h
 exact ⟨rfl,rfl⟩
theorem z32.sound:Sn z32.pack 204:=by
 intro vs p h;unfold z32.pack at h;split at h<;>cases h
 exact Qi Qd Qe rfl rfl rfl rfl (Qa z31.sound Qh) ⟨Tryz.func204,rfl,by kernel_rfl⟩ rfl (z32.link _ _) z32.hdec
theorem z33.sound:Sn z33.pack 161:=by
 intro vs p h;unfold z33.pack at h;split at h<;>cases h
 exact Qi Qd Qe rfl rfl rfl rfl (Qa z32.sound Qh) ⟨Tryz.func161,rfl,by kernel_rfl⟩ rfl (z33.link _ _) z32.hdec
theorem z34.sound:Sn z34.pack 103:=by
 intro vs p h;unfold z34.pack at h;split at h<;>cases h
 exact Qi Qd Qe rfl rfl rfl rfl Qw ⟨Tryz.func103,rfl,by kernel_rfl⟩ rfl (z34.link _ _) (by intro v r h;unfold z34.dec at h;split at h<;>cases h;exact ⟨rfl,rfl⟩)
theorem z35.l0_sound (hI:InlOK Tryz.prog z35.C λR=>z35.C.inlK 6):Ql z35.C 6 53 0 0 (Qg 0 (ifun Tryz.f53).body) z35.l0sh z35.l0pack:=by
 refine Qo λls p h=>?_
 unfold z35.l0pack at h;split at h<;>cases h
 rename_i a b c e g j m
 exact Qv hI (sh:=z35.l0sh) (so:=z35.l0sh) (F:=λR rec done x=>z35.l0P b e g rec done x) (enc:=λ(x':(Int×Int×J0))=>Qb z35.l0sh [.i x'.1,.i b,.i x'.2.1,.li e,.li g,.li j,.li x'.2.2]) [0,2,6] [0,2,6] (a,c,m) (by kernel_rfl) (by kernel_rfl) (λx=>by kernel_rfl) (λo=>by kernel_rfl) λR k d x'=>z35.l0_link R k d (x'.1) b (x'.2.1) e g j (x'.2.2)
theorem Qm5:Qr (ifun Tryz.f53).body=true:=by kernel_rfl
theorem z35.loopsT (hI:InlOK Tryz.prog z35.C λR=>z35.C.inlK 6):LoopsOK z35.C (λR=>z35.C.inlK 6) 53 0 (ifun Tryz.f53).body:=by
 intro id b hm st p hp
 obtain rfl:=Qt Qm5 hm
 unfold z35.C at hp
 simp only at hp
 try split at hp
 all_goals first
  |(simp at hp;done)
  |(exfalso;omega)
  |exact z35.l0_sound hI st p hp
theorem z35.sound:Sn z35.pack 53:=by
 intro vs p h;unfold z35.pack at h;split at h<;>cases h
 exact Q7 Qd Qe rfl rfl rfl (Qa z34.sound (Qa z0.sound (Qa z14.sound Qh))) ⟨Tryz.func53,rfl,by kernel_rfl⟩ z35.loopsT rfl (z35.link _ _) z14.hdec
theorem z36.l0a_sound (hI:InlOK Tryz.prog z36.C λR=>z36.C.inlK 0):Ql z36.C 0 237 0 4 (Qg 0 (ifun Tryz.f237).body) z36.l0ash z36.l0apack:=by
 refine Qo λls p h=>?_
 unfold z36.l0apack at h;split at h<;>cases h
 rename_i a b c e g j m q r s t
 exact Qv hI (sh:=z36.l0ash) (so:=z36.l0ash) (F:=λR rec done x=>z36.l0aP a b c g j rec done x) (enc:=λ(x':(Int×Int×J0))=>Qb z36.l0ash [.i a,.n b,.n c,.i x'.1,.li g,.i j,.i x'.2.1,.li q,.li r,.li x'.2.2,.li t]) [3,6,9] [3,6,9] (e,m,s) (by kernel_rfl) (by kernel_rfl) (λx=>by kernel_rfl) (λo=>by kernel_rfl) λR k d x'=>z36.l0a_link R k d a b c (x'.1) g j (x'.2.1) q r (x'.2.2) t
theorem z36.l0_sound (hI:InlOK Tryz.prog z36.C λR=>z36.C.inlK 6):Ql z36.C 6 206 0 0 (Qg 0 (ifun Tryz.f206).body) z36.l0sh z36.l0pack:=by
 refine Qo λls p h=>?_
 unfold z36.l0pack at h;split at h<;>cases h
 rename_i a b c e g j
 exact Qv hI (sh:=z36.l0sh) (so:=z36.l0sh) (F:=λR rec done x=>z36.l0P a b e rec done x) (enc:=λ(x':(Int×J0))=>Qb z36.l0sh [.li a,.i b,.i x'.1,.li e,.li g,.li x'.2]) [2,5] [2,5] (c,j) (by kernel_rfl) (by kernel_rfl) (λx=>by kernel_rfl) (λo=>by kernel_rfl) λR k d x'=>z36.l0_link R k d a b (x'.1) e g (x'.2)
theorem Qsr:Qr (ifun Tryz.f206).body=true:=by kernel_rfl
theorem Qqy:Qr (ifun Tryz.f237).body=true:=by kernel_rfl
theorem z36.loopsT (hI:InlOK Tryz.prog z36.C λR=>z36.C.inlK 6):LoopsOK z36.C (λR=>z36.C.inlK 6) 206 0 (ifun Tryz.f206).body:=by
 intro id b hm st p hp
 obtain rfl:=Qt Qsr hm
 unfold z36.C at hp
 simp only at hp
 try split at hp
 all_goals first
  |(simp at hp;done)
  |(exfalso;omega)
  |exact z36.l0_sound hI st p hp
theorem z36.loops237 (hI:InlOK Tryz.prog z36.C λR=>z36.C.inlK 0) (base:Nat):LoopsOK z36.C (λR=>z36.C.inlK 0) 237 base (ifun Tryz.f237).body:=by
 intro id b hm st p hp
 obtain rfl:=Qt Qqy hm
 unfold z36.C at hp
 simp only at hp
 try split at hp
 all_goals first
  |(simp at hp;done)
  |(exfalso;omega)
  |exact z36.l0a_sound hI st p hp
theorem z36.inlF:InlF Tryz.prog z36.C where
 prim g h hp:=by simp [z36.C] at hp
 fn g fn h:=by
  unfold z36.C at h;simp only at h;split at h
  ·simp only [Option.some.injEq] at h;subst h;exact ⟨_,_,⟨Tryz.func237,rfl,by kernel_rfl⟩,rfl⟩
  ·simp at h
 loops g fn h:=by
  unfold z36.C at h;simp only at h;split at h
  ·simp only [Option.some.injEq] at h;subst h;exact λhI base=>z36.loops237 hI base
  ·simp at h
theorem z36.sound:Sn z36.pack 206:=by
 intro vs p h;unfold z36.pack at h;split at h<;>cases h
 exact Wy Qd Qe rfl (Qa z21.sound (Qa z0.sound (Qa z14.sound Qh))) z36.inlF ⟨Tryz.func206,rfl,by kernel_rfl⟩ z36.loopsT rfl (z36.link _ _) z14.hdec
theorem z37.l2_sound (hI:InlOK Tryz.prog z37.C λR=>z37.C.inlK 6):Ql z37.C 6 162 2 0 (Qg 2 (ifun Tryz.f162).body) z37.l2sh z37.l2pack:=by
 refine Qo λls p h=>?_
 unfold z37.l2pack at h;split at h<;>cases h
 rename_i a b c e g j m q
 exact Qv hI (sh:=z37.l2sh) (so:=z37.l2sh) (F:=λR rec done x=>z37.l2P m rec done x) (enc:=λ(x':(Int×Nat))=>Qb z37.l2sh [.s a,.i b,.i c,.i x'.1,.li g,.li j,.s m,.n x'.2]) [3,7] [3,7] (e,q) (by kernel_rfl) (by kernel_rfl) (λx=>by kernel_rfl) (λo=>by kernel_rfl) λR k d x'=>z37.l2_link R k d a b c (x'.1) g j m (x'.2)
theorem z37.l2a_sound (hI:InlOK Tryz.prog z37.C λR=>z37.C.inlK 6):Ql z37.C 6 162 2 0 (Qg 2 (ifun Tryz.f162).body) z37.l2ash z37.l2apack:=by
 refine Qo λls p h=>?_
 unfold z37.l2apack at h;split at h<;>cases h
 rename_i a c e g j m q r t u
 exact Qv hI (sh:=z37.l2ash) (so:=z37.l2ash) (F:=λR rec done x=>z37.l2aP t rec done x) (enc:=λ(x':(Int×Nat))=>Qb z37.l2ash [.s a,.i c,.i e,.i x'.1,.i j,.b m,.li q,.li r,.s t,.n x'.2]) [3,9] [3,9] (g,u) (by kernel_rfl) (by kernel_rfl) (λx=>by kernel_rfl) (λo=>by kernel_rfl) λR k d x'=>z37.l2a_link R k d a c e (x'.1) j m q r t (x'.2)
theorem z37.l0_sound (hI:InlOK Tryz.prog z37.C λR=>z37.C.inlK 6):Ql z37.C 6 162 0 0 (Qg 0 (ifun Tryz.f162).body) z37.l0sh z37.l0pack:=by
 refine Qo λls p h=>?_
 unfold z37.l0pack at h;split at h<;>cases h
 rename_i a c e g j
 exact Qv hI (sh:=z37.l0sh) (so:=z37.l0sh) (F:=λR rec done x=>z37.l0P rec done x) (enc:=λ(x':(J1×Bool×J0))=>Qb z37.l0sh [.s x'.1,.i c,.b x'.2.1,.li g,.li x'.2.2]) [0,2,4] [0,2,4] (a,e,j) (by kernel_rfl) (by kernel_rfl) (λx=>by kernel_rfl) (λo=>by kernel_rfl) λR k d x'=>z37.l0_link R k d (x'.1) c (x'.2.1) g (x'.2.2)
theorem Qnd:Qr (ifun Tryz.f162).body=true:=by kernel_rfl
theorem z37.loopsT (hI:InlOK Tryz.prog z37.C λR=>z37.C.inlK 6):LoopsOK z37.C (λR=>z37.C.inlK 6) 162 0 (ifun Tryz.f162).body:=by
 intro id b hm st p hp
 obtain rfl:=Qt Qnd hm
 unfold z37.C at hp
 simp only at hp
 try split at hp
 all_goals first
  |(simp at hp;done)
  |(exfalso;omega)
  |exact (orP_some hp).elim (λh=>z37.l2_sound hI st p h) (λh=>z37.l2a_sound hI st p h)
  |exact z37.l0_sound hI st p hp
theorem z37.sound:Sn z37.pack 162:=by
 intro vs p h;unfold z37.pack at h;split at h<;>cases h
 exact Q7 Qd Qe rfl rfl rfl (Qa z3.sound (Qa z15.sound (Qa z36.sound (Qa z35.sound Qh)))) ⟨Tryz.func162,rfl,by kernel_rfl⟩ z37.loopsT rfl (z37.link _) z23.hdec
theorem z38.hdec:Wd z71.dec z38.enc:=by
 intro v r h
 unfold z71.dec at h;split at h<;>cases h
 exact ⟨rfl,rfl⟩
theorem z38.sound:Sn z38.pack 117:=by
 intro vs p h;unfold z38.pack at h;split at h<;>cases h
 exact Qi Qd Qe rfl rfl rfl rfl (Qa z33.sound (Qa z37.sound (Qa z8.sound (Qa z30.sound Qh)))) ⟨Tryz.func117,rfl,by kernel_rfl⟩ rfl (z38.link _) z38.hdec
theorem z39.l0_sound (hI:InlOK Tryz.prog z39.C λR=>z39.C.inlK 6):Ql z39.C 6 54 0 0 (Qg 0 (ifun Tryz.f54).body) z39.l0sh z39.l0pack:=by
 refine Qo λls p h=>?_
 unfold z39.l0pack at h;split at h<;>cases h
 rename_i a c e g j m n q
 exact Qv hI (sh:=z39.l0sh) (so:=z39.l0sh) (F:=λR rec done x=>z39.l0P e j m rec done x) (enc:=λ(x':(Int×Int×J0))=>Qb z39.l0sh [.b a,.i x'.1,.i e,.i x'.2.1,.li j,.li m,.li n,.li x'.2.2]) [1,3,7] [1,3,7] (c,g,q) (by kernel_rfl) (by kernel_rfl) (λx=>by kernel_rfl) (λo=>by kernel_rfl) λR k d x'=>z39.l0_link R k d a (x'.1) e (x'.2.1) j m n (x'.2.2)
theorem Qmw:Qr (ifun Tryz.f54).body=true:=by kernel_rfl
theorem z39.loopsT (hI:InlOK Tryz.prog z39.C λR=>z39.C.inlK 6):LoopsOK z39.C (λR=>z39.C.inlK 6) 54 0 (ifun Tryz.f54).body:=by
 intro id b hm st p hp
 obtain rfl:=Qt Qmw hm
 unfold z39.C at hp
 simp only at hp
 try split at hp
 all_goals first
  |(simp at hp;done)
  |(exfalso;omega)
  |exact z39.l0_sound hI st p hp
theorem z39.sound:Sn z39.pack 54:=by
 intro vs p h;unfold z39.pack at h;split at h<;>cases h
 exact Q7 Qd Qe rfl rfl rfl (Qa z13.sound (Qa z34.sound (Qa z1.sound (Qa z14.sound Qh)))) ⟨Tryz.func54,rfl,by kernel_rfl⟩ z39.loopsT rfl (z39.link _ _) (by intro v r h;unfold z39.dec at h;split at h<;>cases h;exact ⟨rfl,rfl⟩)
theorem z40.sound:Sn z40.pack 12:=by
 intro vs p h;unfold z40.pack at h;split at h<;>cases h
 exact Qi Qd Qe rfl rfl rfl rfl (Qa z35.sound (Qa z30.sound (Qa z39.sound Qh))) ⟨Tryz.func12,rfl,by kernel_rfl⟩ rfl (z40.link _ _ _ _) z30.hdec
theorem z41.sound:Sn z41.pack 66:=by
 intro vs p h;unfold z41.pack at h;split at h<;>cases h
 exact Qi Qd Qe rfl rfl rfl rfl (Qa z30.sound Qh) ⟨Tryz.func66,rfl,by kernel_rfl⟩ rfl (z41.link _ _) z30.hdec
theorem z42.sound:Sn z42.pack 194:=by
 intro vs p h;unfold z42.pack at h;split at h<;>cases h
 exact Qi Qd Qe rfl rfl rfl rfl (Qa z41.sound (Qa z40.sound Qh)) ⟨Tryz.func194,rfl,by kernel_rfl⟩ rfl (z42.link _ _ _ _) z30.hdec
theorem z43.sound:Sn z43.pack 241:=by
 intro vs p h;unfold z43.pack at h;split at h<;>cases h
 exact Qi Qd Qe rfl rfl rfl rfl (Qa z42.sound (Qa z29.sound Qh)) ⟨Tryz.func241,rfl,by kernel_rfl⟩ rfl (z43.link _ _ _ _) z10.hdec
theorem z44.l0_sound (hI:InlOK Tryz.prog z44.C λR=>z44.C.inlK 6):Ql z44.C 6 257 0 0 (Qg 0 (ifun Tryz.f257).body) z44.l0sh z44.l0pack:=by
 refine Qo λls p h=>?_
 unfold z44.l0pack at h;split at h<;>cases h
 rename_i a b c e
 exact Qv hI (sh:=z44.l0sh) (so:=z44.l0sh) (F:=λR rec done x=>z44.l0P rec done x) (enc:=λ(x':(Int×J0×J0))=>Qb z44.l0sh [.i x'.1,.li x'.2.1,.li c,.li x'.2.2]) [0,1,3] [0,1,3] (a,b,e) (by kernel_rfl) (by kernel_rfl) (λx=>by kernel_rfl) (λo=>by kernel_rfl) λR k d x'=>z44.l0_link R k d (x'.1) (x'.2.1) c (x'.2.2)
theorem Qr3:Qr (ifun Tryz.f257).body=true:=by kernel_rfl
theorem z44.loopsT (hI:InlOK Tryz.prog z44.C λR=>z44.C.inlK 6):LoopsOK z44.C (λR=>z44.C.inlK 6) 257 0 (ifun Tryz.f257).body:=by
 intro id b hm st p hp
 obtain rfl:=Qt Qr3 hm
 unfold z44.C at hp
 simp only at hp
 try split at hp
 all_goals first
  |(simp at hp;done)
  |(exfalso;omega)
  |exact z44.l0_sound hI st p hp
theorem z44.sound:Sn z44.pack 257:=by
 intro vs p h;unfold z44.pack at h;split at h<;>cases h
 exact Q7 Qd Qe rfl rfl rfl (Qa z15.sound (Qa z36.sound Qh)) ⟨Tryz.func257,rfl,by kernel_rfl⟩ z44.loopsT rfl (z44.link _ _) z14.hdec
theorem z45.sound:Sn z45.pack 252:=by
 intro vs p h;unfold z45.pack at h;split at h<;>cases h
 exact Qi Qd Qe rfl rfl rfl rfl (Qa z15.sound (Qa z44.sound Qh)) ⟨Tryz.func252,rfl,by kernel_rfl⟩ rfl (z45.link _) z23.hdec
theorem z46.sound:Sn z46.pack 242:=by
 intro vs p h;unfold z46.pack at h;split at h<;>cases h
 exact Qi Qd Qe rfl rfl rfl rfl (Qa z45.sound (Qa z30.sound Qh)) ⟨Tryz.func242,rfl,by kernel_rfl⟩ rfl z46.link z30.hdec
theorem z47.sound:Sn z47.pack 218:=by
 intro vs p h;unfold z47.pack at h;split at h<;>cases h
 exact Qi Qd Qe rfl rfl rfl rfl (Qa z38.sound (Qa z29.sound (Qa z46.sound (Qa z43.sound Qh)))) ⟨Tryz.func218,rfl,by kernel_rfl⟩ rfl (z47.link _) z38.hdec
theorem z48.sound:Sn z48.pack 176:=by
 intro vs p h;unfold z48.pack at h;split at h<;>cases h
 exact Qi Qd Qe rfl rfl rfl rfl (Qa z47.sound (Qa z29.sound Qh)) ⟨Tryz.func176,rfl,by kernel_rfl⟩ rfl (z48.link _) z10.hdec
theorem z49.sound:Sn z49.pack 212:=by
 intro vs p h;unfold z49.pack at h;split at h<;>cases h
 exact Qi Qd Qe rfl rfl rfl rfl (Qa z3.sound Qh) ⟨Tryz.func212,rfl,by kernel_rfl⟩ rfl (z49.link _) z8.hdec
theorem fun190:FunOK Tryz.prog 190 Tryz.f190 (ifun Tryz.f190).body:=⟨Tryz.func190,rfl,by kernel_rfl⟩
theorem z50.inlF:InlF Tryz.prog z50.C where
 prim g h hp:=by simp [z50.C] at hp
 fn g fn h:=by
  unfold z50.C at h;simp only at h;split at h
  ·simp only [Option.some.injEq] at h;subst h;exact ⟨_,_,⟨Tryz.func211,rfl,by kernel_rfl⟩,rfl⟩
  ·simp only [Option.some.injEq] at h;subst h;exact ⟨_,_,⟨Tryz.func239,rfl,by kernel_rfl⟩,rfl⟩
  ·simp only [Option.some.injEq] at h;subst h;exact ⟨_,_,⟨Tryz.func148,rfl,by kernel_rfl⟩,rfl⟩
  ·simp only [Option.some.injEq] at h;subst h;exact ⟨_,_,fun190,rfl⟩
  ·simp at h
 loops g fn h:=by
  unfold z50.C at h;simp only at h;split at h
  ·simp only [Option.some.injEq] at h;subst h;exact λhI base=>noLoops rfl _ _ _ _
  ·simp only [Option.some.injEq] at h;subst h;exact λhI base=>noLoops rfl _ _ _ _
  ·simp only [Option.some.injEq] at h;subst h;exact λhI base=>noLoops rfl _ _ _ _
  ·simp only [Option.some.injEq] at h;subst h;exact λhI base=>noLoops rfl _ _ _ _
  ·simp at h
theorem z50.hdec:Wd z50.dec z50.enc:=by
 intro v r h
 unfold z50.dec at h;split at h<;>cases h
 exact ⟨rfl,rfl⟩
theorem z50.sound:Sn z50.pack 171:=by
 intro vs p h;unfold z50.pack at h;split at h<;>cases h
 exact Wy Qd Qe rfl (Qa z33.sound (Qa z49.sound (Qa z3.sound (Qa z4.sound (Qa z37.sound (Qa z30.sound (Qa z2.sound Qh))))))) z50.inlF ⟨Tryz.func171,rfl,by kernel_rfl⟩ (λ_=>noLoops rfl _ _ _ _) rfl (z50.link _) z50.hdec
theorem z51.sound:Sn z51.pack 224:=by
 intro vs p h;unfold z51.pack at h;split at h<;>cases h
 exact Qi Qd Qe rfl rfl rfl rfl Qw ⟨Tryz.func224,rfl,by kernel_rfl⟩ rfl (z51.link _) z8.hdec
theorem z52.sound:Sn z52.pack 180:=by
 intro vs p h;unfold z52.pack at h;split at h<;>cases h
 exact Qi Qd Qe rfl rfl rfl rfl (Qa z51.sound Qh) ⟨Tryz.func180,rfl,by kernel_rfl⟩ rfl (z52.link _ _ _) z50.hdec
theorem z53.sound:Sn z53.pack 214:=by
 intro vs p h;unfold z53.pack at h;split at h<;>cases h
 exact Qi Qd Qe rfl rfl rfl rfl Qw ⟨Tryz.func214,rfl,by kernel_rfl⟩ rfl (z53.link _ _ _) z10.hdec
theorem z54.sound:Sn z54.pack 215:=by
 intro vs p h;unfold z54.pack at h;split at h<;>cases h
 exact Qi Qd Qe rfl rfl rfl rfl Qw ⟨Tryz.func215,rfl,by kernel_rfl⟩ rfl (z54.link _ _ _) z30.hdec
theorem z55.sound:Sn z55.pack 219:=by
 intro vs p h;unfold z55.pack at h;split at h<;>cases h
 exact Qi Qd Qe rfl rfl rfl rfl (Qa z15.sound (Qa z30.sound Qh)) ⟨Tryz.func219,rfl,by kernel_rfl⟩ rfl (z55.link _) z30.hdec
theorem z56.sound:Sn z56.pack 245:=by
 intro vs p h;unfold z56.pack at h;split at h<;>cases h
 exact Qi Qd Qe rfl rfl rfl rfl (Qa z45.sound (Qa z30.sound Qh)) ⟨Tryz.func245,rfl,by kernel_rfl⟩ rfl (z56.link _) z30.hdec
theorem z57.sound:Sn z57.pack 246:=by
 intro vs p h;unfold z57.pack at h;split at h<;>cases h
 exact Qi Qd Qe rfl rfl rfl rfl (Qa z36.sound (Qa z30.sound Qh)) ⟨Tryz.func246,rfl,by kernel_rfl⟩ rfl (z57.link _ _ _ _) z30.hdec
theorem z58.sound:Sn z58.pack 243:=by
 intro vs p h;unfold z58.pack at h;split at h<;>cases h
 exact Qi Qd Qe rfl rfl rfl rfl (Qa z56.sound (Qa z57.sound Qh)) ⟨Tryz.func243,rfl,by kernel_rfl⟩ rfl (z58.link _ _ _ _) z30.hdec
theorem z59.sound:Sn z59.pack 220:=by
 intro vs p h;unfold z59.pack at h;split at h<;>cases h
 exact Qi Qd Qe rfl rfl rfl rfl (Qa z58.sound (Qa z43.sound Qh)) ⟨Tryz.func220,rfl,by kernel_rfl⟩ rfl (z59.link _ _ _ _ _ _) z10.hdec
theorem z60.sound:Sn z60.pack 254:=by
 intro vs p h;unfold z60.pack at h;split at h<;>cases h
 exact Qi Qd Qe rfl rfl rfl rfl Qw ⟨Tryz.func254,rfl,by kernel_rfl⟩ rfl (z60.link _ _) z14.hdec
theorem z61.l0_sound (hI:InlOK Tryz.prog z61.C λR=>z61.C.inlK 6):Ql z61.C 6 258 0 0 (Qg 0 (ifun Tryz.f258).body) z61.l0sh z61.l0pack:=by
 refine Qo λls p h=>?_
 unfold z61.l0pack at h;split at h<;>cases h
 rename_i a b c
 exact Qv hI (sh:=z61.l0sh) (so:=z61.l0sh) (F:=λR rec done x=>z61.l0P rec done x) (enc:=λ(x':(J0×J0))=>Qb z61.l0sh [.li x'.1,.li x'.2,.li c]) [0,1] [0,1] (a,b) (by kernel_rfl) (by kernel_rfl) (λx=>by kernel_rfl) (λo=>by kernel_rfl) λR k d x'=>z61.l0_link R k d (x'.1) (x'.2) c
theorem Qpa:Qr (ifun Tryz.f258).body=true:=by kernel_rfl
theorem z61.loopsT (hI:InlOK Tryz.prog z61.C λR=>z61.C.inlK 6):LoopsOK z61.C (λR=>z61.C.inlK 6) 258 0 (ifun Tryz.f258).body:=by
 intro id b hm st p hp
 obtain rfl:=Qt Qpa hm
 unfold z61.C at hp
 simp only at hp
 try split at hp
 all_goals first
  |(simp at hp;done)
  |(exfalso;omega)
  |exact z61.l0_sound hI st p hp
theorem z61.sound:Sn z61.pack 258:=by
 intro vs p h;unfold z61.pack at h;split at h<;>cases h
 exact Q7 Qd Qe rfl rfl rfl (Qa z8.sound (Qa z25.sound Qh)) ⟨Tryz.func258,rfl,by kernel_rfl⟩ z61.loopsT rfl (z61.link _ _) z14.hdec
theorem z62.hdec:Wd z64.dec z62.enc:=by
 intro v r h
 unfold z64.dec at h;split at h<;>cases h
 exact ⟨rfl,rfl⟩
theorem z62.sound:Sn z62.pack 253:=by
 intro vs p h;unfold z62.pack at h;split at h<;>cases h
 exact Qi Qd Qe rfl rfl rfl rfl (Qa z60.sound (Qa z61.sound (Qa z25.sound (Qa z15.sound (Qa z39.sound (Qa z29.sound (Qa z30.sound Qh))))))) ⟨Tryz.func253,rfl,by kernel_rfl⟩ rfl (z62.link _ _ _) z62.hdec
theorem z63.hdec:Wd z63.dec z63.enc:=by
 intro v r h
 unfold z63.dec at h;split at h<;>cases h
 exact ⟨rfl,rfl⟩
theorem z63.sound:Sn z63.pack 244:=by
 intro vs p h;unfold z63.pack at h;split at h<;>cases h
 exact Qi Qd Qe rfl rfl rfl rfl (Qa z29.sound (Qa z41.sound (Qa z60.sound (Qa z62.sound Qh)))) ⟨Tryz.func244,rfl,by kernel_rfl⟩ rfl (z63.link _ _ _ _) z63.hdec
theorem z64.sound:Sn z64.pack 221:=by
 intro vs p h;unfold z64.pack at h;split at h<;>cases h
 exact Qi Qd Qe rfl rfl rfl rfl (Qa z56.sound (Qa z63.sound Qh)) ⟨Tryz.func221,rfl,by kernel_rfl⟩ rfl (z64.link _ _ _) z62.hdec
theorem z65.sound:Sn z65.pack 255:=by
 intro vs p h;unfold z65.pack at h;split at h<;>cases h
 exact Qi Qd Qe rfl rfl rfl rfl (Qa z15.sound (Qa z35.sound Qh)) ⟨Tryz.func255,rfl,by kernel_rfl⟩ rfl (z65.link _ _ _) z14.hdec
theorem z66.sound:Sn z66.pack 247:=by
 intro vs p h;unfold z66.pack at h;split at h<;>cases h
 exact Qi Qd Qe rfl rfl rfl rfl (Qa z65.sound (Qa z30.sound Qh)) ⟨Tryz.func247,rfl,by kernel_rfl⟩ rfl (z66.link _ _ _) z30.hdec
theorem z67.sound:Sn z67.pack 222:=by
 intro vs p h;unfold z67.pack at h;split at h<;>cases h
 exact Qi Qd Qe rfl rfl rfl rfl (Qa z66.sound (Qa z57.sound (Qa z63.sound Qh))) ⟨Tryz.func222,rfl,by kernel_rfl⟩ rfl (z67.link _ _ _ _ _ _) z63.hdec
theorem z68.sound:Sn z68.pack 223:=by
 intro vs p h;unfold z68.pack at h;split at h<;>cases h
 exact Qi Qd Qe rfl rfl rfl rfl Qw ⟨Tryz.func223,rfl,by kernel_rfl⟩ rfl (z68.link _ _) z62.hdec
theorem z69.sound:Sn z69.pack 177:=by
 intro vs p h;unfold z69.pack at h;split at h<;>cases h
 exact Qi Qd Qe rfl rfl rfl rfl (Qa z50.sound (Qa z55.sound (Qa z52.sound (Qa z54.sound (Qa z29.sound (Qa z59.sound (Qa z53.sound (Qa z64.sound (Qa z68.sound (Qa z67.sound Qh)))))))))) ⟨Tryz.func177,rfl,by kernel_rfl⟩ rfl (z69.link _) z63.hdec
theorem z70.sound:Sn z70.pack 134:=by
 intro vs p h;unfold z70.pack at h;split at h<;>cases h
 exact Qi Qd Qe rfl rfl rfl rfl (Qa z48.sound (Qa z69.sound Qh)) ⟨Tryz.func134,rfl,by kernel_rfl⟩ rfl (z70.link _ _ _ _ _) z10.hdec
theorem z71.sound:Sn z71.pack 174:=by
 intro vs p h;unfold z71.pack at h;split at h<;>cases h
 exact Qi Qd Qe rfl rfl rfl rfl (Qa z50.sound (Qa z53.sound (Qa z54.sound Qh))) ⟨Tryz.func174,rfl,by kernel_rfl⟩ rfl (z71.link _) z38.hdec
theorem z72.inlF:InlF Tryz.prog z72.C where
 prim g h hp:=by
  unfold z72.C at hp;simp only at hp;split at hp
  ·simp only [Option.some.injEq] at hp;subst hp;exact z7.sound
  ·simp at hp
 fn g fn h:=by simp [z72.C] at h
 loops g fn h:=by simp [z72.C] at h
theorem z72.sound:SoundP Tryz.prog 125 (blkP [139,70] z72.pk):=by
 refine Qei Qd Qe rfl (Qa z70.sound (Qa z71.sound (Qa z28.sound Qh))) z72.inlF ⟨Tryz.func125,rfl,by kernel_rfl⟩ rfl λcss rest p h=>?_
 unfold z72.pk at h;split at h<;>cases h
 exact ⟨_,_,z72.dec,rfl,rfl,z72.link _ _ _ _ _ _ _ _,λv css' r h=>by unfold z72.dec at h;split at h<;>cases h;exact ⟨rfl,rfl,rfl⟩⟩
theorem z73.l0_sound (hI:InlOK Tryz.prog z73.C λR=>z73.C.inlK 6):Ql z73.C 6 160 0 0 (Qg 0 (ifun Tryz.f160).body) z73.l0sh z73.l0pack:=by
 refine Qo λls p h=>?_
 unfold z73.l0pack at h;split at h<;>cases h
 rename_i a b c e g
 exact Yc hI (sh:=z73.l0sh) (so:=z73.l0sh) (so':=z73.l0so1) (F:=λR rec done x=>z73.l0P b c e rec done x) (enc:=λ(x':Int)=>Qb z73.l0sh [.i a,.i b,.li c,.i e,.i x']) (.exit 0) [4] [4] [0] g (by kernel_rfl) (by kernel_rfl) (λx=>by kernel_rfl) (λo=>by kernel_rfl) (λo=>by kernel_rfl) λR k d x'=>z73.l0_link R k d a b c e (x')
theorem Qma:Qr (ifun Tryz.f160).body=true:=by kernel_rfl
theorem z73.loopsT (hI:InlOK Tryz.prog z73.C λR=>z73.C.inlK 6):LoopsOK z73.C (λR=>z73.C.inlK 6) 160 0 (ifun Tryz.f160).body:=by
 intro id b hm st p hp
 obtain rfl:=Qt Qma hm
 unfold z73.C at hp
 simp only at hp
 try split at hp
 all_goals first
  |(simp at hp;done)
  |(exfalso;omega)
  |exact z73.l0_sound hI st p hp
theorem z73.sound:Sn z73.pack 160:=by
 intro vs p h;unfold z73.pack at h;split at h<;>cases h
 exact Q7 Qd Qe rfl rfl rfl Qw ⟨Tryz.func160,rfl,by kernel_rfl⟩ z73.loopsT rfl (z73.link _) z10.hdec
theorem z74.sound:Sn z74.pack 115:=by
 intro vs p h;unfold z74.pack at h;split at h<;>cases h
 exact Qi Qd Qe rfl rfl rfl rfl (Qa z10.sound (Qa z73.sound Qh)) ⟨Tryz.func115,rfl,by kernel_rfl⟩ rfl (z74.link _ _ _ _ _ _) z10.hdec
theorem z75.l0_sound (hI:InlOK Tryz.prog z75.C λR=>z75.C.inlK 6):Ql z75.C 6 122 0 0 (Qg 0 (ifun Tryz.f122).body) z75.l0sh z75.l0pack:=by
 refine Qo λls p h=>?_
 unfold z75.l0pack at h;split at h<;>cases h
 rename_i a b c e g
 exact Yc hI (sh:=z75.l0sh) (so:=z75.l0sh) (so':=z75.l0so1) (F:=λR rec done x=>z75.l0P a b e rec done x) (enc:=λ(x':Int)=>Qb z75.l0sh [.ls a,.s b,.i c,.i e,.i x']) (.exit 0) [4] [4] [0] g (by kernel_rfl) (by kernel_rfl) (λx=>by kernel_rfl) (λo=>by kernel_rfl) (λo=>by kernel_rfl) λR k d x'=>z75.l0_link R k d a b c e (x')
theorem Qqz:Qr (ifun Tryz.f122).body=true:=by kernel_rfl
theorem z75.loopsT (hI:InlOK Tryz.prog z75.C λR=>z75.C.inlK 6):LoopsOK z75.C (λR=>z75.C.inlK 6) 122 0 (ifun Tryz.f122).body:=by
 intro id b hm st p hp
 obtain rfl:=Qt Qqz hm
 unfold z75.C at hp
 simp only at hp
 try split at hp
 all_goals first
  |(simp at hp;done)
  |(exfalso;omega)
  |exact z75.l0_sound hI st p hp
theorem z75.sound:Sn z75.pack 122:=by
 intro vs p h;unfold z75.pack at h;split at h<;>cases h
 exact Q7 Qd Qe rfl rfl rfl Qw ⟨Tryz.func122,rfl,by kernel_rfl⟩ z75.loopsT rfl (z75.link _ _) z10.hdec
theorem z76.sound:Sn z76.pack 123:=by
 intro vs p h;unfold z76.pack at h;split at h<;>cases h
 exact Qi Qd Qe rfl rfl rfl rfl Qw ⟨Tryz.func123,rfl,by kernel_rfl⟩ rfl z76.link (by intro v r h;unfold z76.dec at h;split at h<;>cases h;exact ⟨rfl,rfl⟩)
theorem z77.sound:Sn z77.pack 216:=by
 intro vs p h;unfold z77.pack at h;split at h<;>cases h
 exact Qi Qd Qe rfl rfl rfl rfl Qw ⟨Tryz.func216,rfl,by kernel_rfl⟩ rfl (z77.link _) z8.hdec
theorem z78.sound:Sn z78.pack 217:=by
 intro vs p h;unfold z78.pack at h;split at h<;>cases h
 exact Qi Qd Qe rfl rfl rfl rfl (Qa z77.sound Qh) ⟨Tryz.func217,rfl,by kernel_rfl⟩ rfl (z78.link _) z8.hdec
theorem z79.sound:Sn z79.pack 175:=by
 intro vs p h;unfold z79.pack at h;split at h<;>cases h
 exact Qi Qd Qe rfl rfl rfl rfl (Qa z77.sound (Qa z78.sound Qh)) ⟨Tryz.func175,rfl,by kernel_rfl⟩ rfl (z79.link _ _) z10.hdec
theorem z80.sound:Sn z80.pack 133:=by
 intro vs p h;unfold z80.pack at h;split at h<;>cases h
 exact Qi Qd Qe rfl rfl rfl rfl (Qa z79.sound Qh) ⟨Tryz.func133,rfl,by kernel_rfl⟩ rfl (z80.link _ _ _) z10.hdec
theorem z81.l0_sound (hI:InlOK Tryz.prog z81.C λR=>z81.C.inlK 6):Ql z81.C 6 173 0 0 (Qg 0 (ifun Tryz.f173).body) z81.l0sh z81.l0pack:=by
 refine Qo λls p h=>?_
 unfold z81.l0pack at h;split at h<;>cases h
 rename_i a c e g j m
 exact Yc hI (sh:=z81.l0sh) (so:=z81.l0sh) (so':=z81.l0so1) (F:=λR rec done x=>z81.l0P a j rec done x) (enc:=λ(x':(Int×Int))=>Qb z81.l0sh [.s a,.i c,.b e,.i x'.1,.i j,.i x'.2]) (.exit 0) [3,5] [3,5] [0,1] (g,m) (by kernel_rfl) (by kernel_rfl) (λx=>by kernel_rfl) (λo=>by kernel_rfl) (λo=>by kernel_rfl) λR k d x'=>z81.l0_link R k d a c e (x'.1) j (x'.2)
theorem Qo5:Qr (ifun Tryz.f173).body=true:=by kernel_rfl
theorem z81.loopsT (hI:InlOK Tryz.prog z81.C λR=>z81.C.inlK 6):LoopsOK z81.C (λR=>z81.C.inlK 6) 173 0 (ifun Tryz.f173).body:=by
 intro id b hm st p hp
 obtain rfl:=Qt Qo5 hm
 unfold z81.C at hp
 simp only at hp
 try split at hp
 all_goals first
  |(simp at hp;done)
  |(exfalso;omega)
  |exact z81.l0_sound hI st p hp
theorem z81.sound:Sn z81.pack 173:=by
 intro vs p h;unfold z81.pack at h;split at h<;>cases h
 exact Q7 Qd Qe rfl rfl rfl Qw ⟨Tryz.func173,rfl,by kernel_rfl⟩ z81.loopsT rfl (z81.link _) (by intro v r h;unfold z81.dec at h;split at h<;>cases h;exact ⟨rfl,rfl⟩)
theorem z82.sound:Sn z82.pack 124:=by
 intro vs p h;unfold z82.pack at h;split at h<;>cases h
 exact Qi Qd Qe rfl rfl rfl rfl (Qa z81.sound (Qa z80.sound Qh)) ⟨Tryz.func124,rfl,by kernel_rfl⟩ rfl (z82.link _) (by intro v r h;unfold z82.dec at h;split at h<;>cases h;exact ⟨rfl,rfl⟩)
theorem z83.inlF:InlF Tryz.prog z83.C where
 prim g h hp:=by
  unfold z83.C at hp;simp only at hp;split at hp
  ·simp only [Option.some.injEq] at hp;subst hp;exact z7.sound
  ·simp only [Option.some.injEq] at hp;subst hp;exact z72.sound
  ·simp at hp
 fn g fn h:=by simp [z83.C] at h
 loops g fn h:=by simp [z83.C] at h
theorem z83.sound:SoundP Tryz.prog 71 (blkP [139] z83.pk):=by
 refine Qei Qd Qe rfl (Qa z76.sound (Qa z75.sound (Qa z82.sound (Qa z74.sound Qh)))) z83.inlF ⟨Tryz.func71,rfl,by kernel_rfl⟩ rfl λcss rest p h=>?_
 unfold z83.pk at h;split at h<;>cases h
 exact ⟨_,_,z83.dec,rfl,rfl,z83.link _ _ _ _ _ _,λv css' r h=>by unfold z83.dec at h;split at h<;>cases h;exact ⟨rfl,rfl,rfl⟩⟩
theorem z84.sound:Sn z84.pack 43:=by
 intro vs p h;unfold z84.pack at h;split at h<;>cases h
 exact Qi Qd Qe rfl rfl rfl rfl (Qa z31.sound Qh) ⟨Tryz.func43,rfl,by kernel_rfl⟩ rfl (z84.link _ _) z8.hdec
theorem z85.inlF:InlF Tryz.prog z85.C where
 prim g h hp:=by simp [z85.C] at hp
 fn g fn h:=by
  unfold z85.C at h;simp only at h;split at h
  ·simp only [Option.some.injEq] at h;subst h;exact ⟨_,_,fun190,rfl⟩
  ·simp at h
 loops g fn h:=by
  unfold z85.C at h;simp only at h;split at h
  ·simp only [Option.some.injEq] at h;subst h;exact λhI base=>noLoops rfl _ _ _ _
  ·simp at h
theorem z85.sound:Sn z85.pack 164:=by
 intro vs p h;unfold z85.pack at h;split at h<;>cases h
 exact Wy Qd Qe rfl (Qa z2.sound Qh) z85.inlF ⟨Tryz.func164,rfl,by kernel_rfl⟩ (λ_=>noLoops rfl _ _ _ _) rfl (z85.link _ _) z10.hdec
theorem z86.l0_sound (hI:InlOK Tryz.prog z86.C λR=>z86.C.inlK 6):Ql z86.C 6 119 0 0 (Qg 0 (ifun Tryz.f119).body) z86.l0sh z86.l0pack:=by
 refine Qo λls p h=>?_
 unfold z86.l0pack at h;split at h<;>cases h
 rename_i a b c
 exact Qv hI (sh:=z86.l0sh) (so:=z86.l0so0) (F:=λR rec done x=>z86.l0P a rec done x) (enc:=λ(x':(J1))=>Qb z86.l0sh [.s a,.i b,.s x']) [2] [0] c (by kernel_rfl) (by kernel_rfl) (λx=>by kernel_rfl) (λo=>by kernel_rfl) λR k d x'=>z86.l0_link R k d a b (x')
theorem Qpw:Qr (ifun Tryz.f119).body=true:=by kernel_rfl
theorem z86.loopsT (hI:InlOK Tryz.prog z86.C λR=>z86.C.inlK 6):LoopsOK z86.C (λR=>z86.C.inlK 6) 119 0 (ifun Tryz.f119).body:=by
 intro id b hm st p hp
 obtain rfl:=Qt Qpw hm
 unfold z86.C at hp
 simp only at hp
 try split at hp
 all_goals first
  |(simp at hp;done)
  |(exfalso;omega)
  |exact z86.l0_sound hI st p hp
theorem z86.sound:Sn z86.pack 119:=by
 intro vs p h;unfold z86.pack at h;split at h<;>cases h
 exact Q7 Qd Qe rfl rfl rfl (Qa z4.sound (Qa z84.sound (Qa z85.sound Qh))) ⟨Tryz.func119,rfl,by kernel_rfl⟩ z86.loopsT rfl (z86.link _) z10.hdec
theorem z87.sound:Sn z87.pack 165:=by
 intro vs p h;unfold z87.pack at h;split at h<;>cases h
 exact Qi Qd Qe rfl rfl rfl rfl Qw ⟨Tryz.func165,rfl,by kernel_rfl⟩ rfl (z87.link _) z8.hdec
theorem z88.sound:Sn z88.pack 168:=by
 intro vs p h;unfold z88.pack at h;split at h<;>cases h
 exact Qi Qd Qe rfl rfl rfl rfl Qw ⟨Tryz.func168,rfl,by kernel_rfl⟩ rfl (z88.link _) z8.hdec
theorem z89.sound:Sn z89.pack 167:=by
 intro vs p h;unfold z89.pack at h;split at h<;>cases h
 exact Qi Qd Qe rfl rfl rfl rfl (Qa z87.sound (Qa z88.sound Qh)) ⟨Tryz.func167,rfl,by kernel_rfl⟩ rfl (z89.link _) z8.hdec
theorem z90.sound:Sn z90.pack 169:=by
 intro vs p h;unfold z90.pack at h;split at h<;>cases h
 exact Qi Qd Qe rfl rfl rfl rfl (Qa z88.sound Qh) ⟨Tryz.func169,rfl,by kernel_rfl⟩ rfl (z90.link _) z8.hdec
theorem z91.l0_sound (hI:InlOK Tryz.prog z91.C λR=>z91.C.inlK 6):Ql z91.C 6 170 0 0 (Qg 0 (ifun Tryz.f170).body) z91.l0sh z91.l0pack:=by
 refine Qo λls p h=>?_
 unfold z91.l0pack at h;split at h<;>cases h
 rename_i a c e g
 exact Yc hI (sh:=z91.l0sh) (so:=z91.l0so0) (so':=z91.l0sh) (F:=λR rec done x=>z91.l0P a e rec done x) (enc:=λ(x':Nat)=>Qb z91.l0sh [.s a,.b c,.s e,.n x']) .ret [3] [0,2] [3] g (by kernel_rfl) (by kernel_rfl) (λx=>by kernel_rfl) (λo=>by kernel_rfl) (λo=>by kernel_rfl) λR k d x'=>z91.l0_link R k d a c e (x')
theorem Qs5:Qr (ifun Tryz.f170).body=true:=by kernel_rfl
theorem z91.loopsT (hI:InlOK Tryz.prog z91.C λR=>z91.C.inlK 6):LoopsOK z91.C (λR=>z91.C.inlK 6) 170 0 (ifun Tryz.f170).body:=by
 intro id b hm st p hp
 obtain rfl:=Qt Qs5 hm
 unfold z91.C at hp
 simp only at hp
 try split at hp
 all_goals first
  |(simp at hp;done)
  |(exfalso;omega)
  |exact z91.l0_sound hI st p hp
theorem z91.sound:Sn z91.pack 170:=by
 intro vs p h;unfold z91.pack at h;split at h<;>cases h
 exact Q7 Qd Qe rfl rfl rfl (Qa z88.sound Qh) ⟨Tryz.func170,rfl,by kernel_rfl⟩ z91.loopsT rfl (z91.link _) z8.hdec
theorem z92.sound:Sn z92.pack 240:=by
 intro vs p h;unfold z92.pack at h;split at h<;>cases h
 exact Qi Qd Qe rfl rfl rfl rfl Qw ⟨Tryz.func240,rfl,by kernel_rfl⟩ rfl (z92.link _) z8.hdec
theorem z93.sound:Sn z93.pack 213:=by
 intro vs p h;unfold z93.pack at h;split at h<;>cases h
 exact Qi Qd Qe rfl rfl rfl rfl (Qa z85.sound (Qa z92.sound Qh)) ⟨Tryz.func213,rfl,by kernel_rfl⟩ rfl (z93.link _ _) z10.hdec
theorem z94.sound:Sn z94.pack 172:=by
 intro vs p h;unfold z94.pack at h;split at h<;>cases h
 exact Qi Qd Qe rfl rfl rfl rfl (Qa z93.sound Qh) ⟨Tryz.func172,rfl,by kernel_rfl⟩ rfl (z94.link _ _) z8.hdec
theorem z95.l0_sound (hI:InlOK Tryz.prog z95.C λR=>z95.C.inlK 0):Ql z95.C 0 166 0 1 (Qg 0 (ifun Tryz.f166).body) z95.l0sh z95.l0pack:=by
 refine Qo λls p h=>?_
 unfold z95.l0pack at h;split at h<;>cases h
 rename_i a b c e g j m
 exact Yc hI (sh:=z95.l0sh) (so:=z95.l0so0) (so':=z95.l0sh) (F:=λR rec done x=>z95.l0P a j rec done x) (enc:=λ(x':Nat)=>Qb z95.l0sh [.s a,.s b,.i c,.s e,.i g,.s j,.n x']) .ret [6] [0,5] [6] m (by kernel_rfl) (by kernel_rfl) (λx=>by kernel_rfl) (λo=>by kernel_rfl) (λo=>by kernel_rfl) λR k d x'=>z95.l0_link R k d a b c e g j (x')
theorem z95.l0a_sound (hI:InlOK Tryz.prog z95.C λR=>z95.C.inlK 0):Ql z95.C 0 166 0 1 (Qg 0 (ifun Tryz.f166).body) z95.l0ash z95.l0apack:=by
 refine Qo λls p h=>?_
 unfold z95.l0apack at h;split at h<;>cases h
 rename_i a b c e g j m
 exact Yc hI (sh:=z95.l0ash) (so:=z95.l0aso0) (so':=z95.l0ash) (F:=λR rec done x=>z95.l0aP a j rec done x) (enc:=λ(x':Nat)=>Qb z95.l0ash [.s a,.s b,.i c,.s e,.i g,.s j,.n x']) .ret [6] [0,5] [6] m (by kernel_rfl) (by kernel_rfl) (λx=>by kernel_rfl) (λo=>by kernel_rfl) (λo=>by kernel_rfl) λR k d x'=>z95.l0a_link R k d a b c e g j (x')
theorem Qrh:Qr (ifun Tryz.f166).body=true:=by kernel_rfl
theorem z95.loops166 (hI:InlOK Tryz.prog z95.C λR=>z95.C.inlK 0) (base:Nat):LoopsOK z95.C (λR=>z95.C.inlK 0) 166 base (ifun Tryz.f166).body:=by
 intro id b hm st p hp
 obtain rfl:=Qt Qrh hm
 unfold z95.C at hp
 simp only at hp
 try split at hp
 all_goals first
  |(simp at hp;done)
  |(exfalso;omega)
  |exact (orP_some hp).elim (λh=>z95.l0_sound hI st p h) (λh=>z95.l0a_sound hI st p h)
theorem z95.inlF:InlF Tryz.prog z95.C where
 prim g h hp:=by simp [z95.C] at hp
 fn g fn h:=by
  unfold z95.C at h;simp only at h;split at h
  ·simp only [Option.some.injEq] at h;subst h;exact ⟨_,_,⟨Tryz.func166,rfl,by kernel_rfl⟩,rfl⟩
  ·simp at h
 loops g fn h:=by
  unfold z95.C at h;simp only at h;split at h
  ·simp only [Option.some.injEq] at h;subst h;exact λhI base=>z95.loops166 hI base
  ·simp at h
theorem z95.noTop:LoopsOK z95.C (λR=>z95.C.inlK 6) 120 0 (ifun Tryz.f120).body:=by
 intro id b hm st p hp
 exfalso
 unfold z95.C at hp
 simp only at hp
 try split at hp
 all_goals first|(simp at hp;done)|omega
theorem z95.sound:Sn z95.pack 120:=by
 intro vs p h;unfold z95.pack at h;split at h<;>cases h
 exact Wy Qd Qe rfl (Qa z87.sound (Qa z89.sound (Qa z88.sound (Qa z90.sound (Qa z91.sound (Qa z50.sound (Qa z94.sound Qh))))))) z95.inlF ⟨Tryz.func120,rfl,by kernel_rfl⟩ (λ_=>z95.noTop) rfl (z95.link _) (by intro v r h;unfold z95.dec at h;split at h<;>cases h;exact ⟨rfl,rfl⟩)
theorem z96.l0_sound (hI:InlOK Tryz.prog z96.C λR=>z96.C.inlK 6):Ql z96.C 6 70 0 0 (Qg 0 (ifun Tryz.f70).body) z96.l0sh z96.l0pack:=by
 refine Qo λls p h=>?_
 unfold z96.l0pack at h;split at h<;>cases h
 rename_i a b c e g j
 exact Yc hI (sh:=z96.l0sh) (so:=z96.l0sh) (so':=z96.l0so1) (F:=λR rec done x=>z96.l0P a rec done x) (enc:=λ(x':(Int×J2))=>Qb z96.l0sh [.s a,.i b,.i c,.i x'.1,.lr g,.lr x'.2]) (.exit 0) [3,5] [3,5] [0,1,2,4] (e,j) (by kernel_rfl) (by kernel_rfl) (λx=>by kernel_rfl) (λo=>by kernel_rfl) (λo=>by kernel_rfl) λR k d x'=>z96.l0_link R k d a b c (x'.1) g (x'.2)
theorem Qp9:Qr (ifun Tryz.f70).body=true:=by kernel_rfl
theorem z96.loopsT (hI:InlOK Tryz.prog z96.C λR=>z96.C.inlK 6):LoopsOK z96.C (λR=>z96.C.inlK 6) 70 0 (ifun Tryz.f70).body:=by
 intro id b hm st p hp
 obtain rfl:=Qt Qp9 hm
 unfold z96.C at hp
 simp only at hp
 try split at hp
 all_goals first
  |(simp at hp;done)
  |(exfalso;omega)
  |exact z96.l0_sound hI st p hp
theorem z96.sound:Sn z96.pack 70:=by
 intro vs p h;unfold z96.pack at h;split at h<;>cases h
 exact Q7 Qd Qe rfl rfl rfl (Qa z86.sound (Qa z95.sound Qh)) ⟨Tryz.func70,rfl,by kernel_rfl⟩ z96.loopsT rfl (z96.link _) (by intro v r h;unfold z96.dec at h;split at h<;>cases h;exact ⟨rfl,rfl⟩)
theorem z97.l0_sound (hI:InlOK Tryz.prog z97.C λR=>z97.C.inlK 6):Ql z97.C 6 24 0 0 (Qg 0 (ifun Tryz.f24).body) z97.l0sh z97.l0pack:=by
 refine Qo λls p h=>?_
 unfold z97.l0pack at h;split at h<;>cases h
 rename_i a b c e g j m n q r
 exact Yc hI (sh:=z97.l0sh) (so:=z97.l0sh) (so':=z97.l0so1) (F:=λR rec done x=>z97.l0P rec done x) (enc:=λ(x':(J2×Int×Int×J2×Int×Int×Int))=>Qb z97.l0sh [.i a,.i b,.lr c,.lr x'.1,.i x'.2.1,.i x'.2.2.1,.lr x'.2.2.2.1,.i x'.2.2.2.2.1,.i x'.2.2.2.2.2.1,.i x'.2.2.2.2.2.2]) (.exit 0) [3,4,5,6,7,8,9] [3,4,5,6,7,8,9] [0,1,2,4,5,6,7,8,9,10] (e,g,j,m,n,q,r) (by kernel_rfl) (by kernel_rfl) (λx=>by kernel_rfl) (λo=>by kernel_rfl) (λo=>by kernel_rfl) λR k d x'=>z97.l0_link R k d a b c (x'.1) (x'.2.1) (x'.2.2.1) (x'.2.2.2.1) (x'.2.2.2.2.1) (x'.2.2.2.2.2.1) (x'.2.2.2.2.2.2)
theorem Qqe:Qr (ifun Tryz.f24).body=true:=by kernel_rfl
theorem z97.loopsT (hI:InlOK Tryz.prog z97.C λR=>z97.C.inlK 6):LoopsOK z97.C (λR=>z97.C.inlK 6) 24 0 (ifun Tryz.f24).body:=by
 intro id b hm st p hp
 obtain rfl:=Qt Qqe hm
 unfold z97.C at hp
 simp only at hp
 try split at hp
 all_goals first
  |(simp at hp;done)
  |(exfalso;omega)
  |exact z97.l0_sound hI st p hp
theorem z97.inlF:InlF Tryz.prog z97.C where
 prim g h hp:=by
  unfold z97.C at hp;simp only at hp;split at hp
  ·simp only [Option.some.injEq] at hp;subst hp;exact z83.sound
  ·simp at hp
 fn g fn h:=by simp [z97.C] at h
 loops g fn h:=by simp [z97.C] at h
theorem z97.sound:Sn z97.pack 24:=by
 intro vs p h;unfold z97.pack at h;split at h<;>cases h
 exact Wy Qd Qe rfl (Qa z96.sound Qh) z97.inlF ⟨Tryz.func24,rfl,by kernel_rfl⟩ z97.loopsT rfl (z97.link _) (by intro v r h;unfold z97.dec at h;split at h<;>cases h;exact ⟨rfl,rfl⟩)
theorem z99.sound:Sn z99.pack 77:=by
 intro vs p h;unfold z99.pack at h;split at h<;>cases h
 exact Qi Qd Qe rfl rfl rfl rfl (Qa z80.sound (Qa z74.sound (Qa z70.sound Qh))) ⟨Tryz.func77,rfl,by kernel_rfl⟩ rfl (z99.link _ _ _ _ _ _ _ _) z10.hdec
theorem z100.l0_sound (hI:InlOK Tryz.prog z100.C λR=>z100.C.inlK 6):Ql z100.C 6 30 0 0 (Qg 0 (ifun Tryz.f30).body) z100.l0sh z100.l0pack:=by
 refine Qo λls p h=>?_
 unfold z100.l0pack at h;split at h<;>cases h
 rename_i a b c e g j m n
 exact Yc hI (sh:=z100.l0sh) (so:=z100.l0sh) (so':=z100.l0so1) (F:=λR rec done x=>z100.l0P c e rec done x) (enc:=λ(x':(Int×Int×Int×Int))=>Qb z100.l0sh [.i a,.i b,.lr c,.i e,.i x'.1,.i x'.2.1,.i x'.2.2.1,.i x'.2.2.2]) (.exit 0) [4,5,6,7] [4,5,6,7] [0,1,2,3,4] (g,j,m,n) (by kernel_rfl) (by kernel_rfl) (λx=>by kernel_rfl) (λo=>by kernel_rfl) (λo=>by kernel_rfl) λR k d x'=>z100.l0_link R k d a b c e (x'.1) (x'.2.1) (x'.2.2.1) (x'.2.2.2)
theorem Qnr:Qr (ifun Tryz.f30).body=true:=by kernel_rfl
theorem z100.loopsT (hI:InlOK Tryz.prog z100.C λR=>z100.C.inlK 6):LoopsOK z100.C (λR=>z100.C.inlK 6) 30 0 (ifun Tryz.f30).body:=by
 intro id b hm st p hp
 obtain rfl:=Qt Qnr hm
 unfold z100.C at hp
 simp only at hp
 try split at hp
 all_goals first
  |(simp at hp;done)
  |(exfalso;omega)
  |exact z100.l0_sound hI st p hp
theorem z100.sound:Sn z100.pack 30:=by
 intro vs p h;unfold z100.pack at h;split at h<;>cases h
 exact Q7 Qd Qe rfl rfl rfl (Qa z99.sound Qh) ⟨Tryz.func30,rfl,by kernel_rfl⟩ z100.loopsT rfl (z100.link _) (by intro v r h;unfold z100.dec at h;split at h<;>cases h;exact ⟨rfl,rfl⟩)
theorem z101.l0_sound (hI:InlOK Tryz.prog z101.C λR=>z101.C.inlK 0):Ql z101.C 0 179 0 2 (Qg 0 (ifun Tryz.f179).body) z101.l0sh z101.l0pack:=by
 refine Qo λls p h=>?_
 unfold z101.l0pack at h;split at h<;>cases h
 rename_i a b c e g j m q
 exact Qv hI (sh:=z101.l0sh) (so:=z101.l0sh) (F:=λR rec done x=>z101.l0P a b rec done x) (enc:=λ(x':(Int×Int×J0))=>Qb z101.l0sh [.n a,.n b,.i x'.1,.i x'.2.1,.i g,.i j,.i m,.li x'.2.2]) [2,3,7] [2,3,7] (c,e,q) (by kernel_rfl) (by kernel_rfl) (λx=>by kernel_rfl) (λo=>by kernel_rfl) λR k d x'=>z101.l0_link R k d a b (x'.1) (x'.2.1) g j m (x'.2.2)
theorem Qog:Qr (ifun Tryz.f179).body=true:=by kernel_rfl
theorem z101.loops179 (hI:InlOK Tryz.prog z101.C λR=>z101.C.inlK 0) (base:Nat):LoopsOK z101.C (λR=>z101.C.inlK 0) 179 base (ifun Tryz.f179).body:=by
 intro id b hm st p hp
 obtain rfl:=Qt Qog hm
 unfold z101.C at hp
 simp only at hp
 try split at hp
 all_goals first
  |(simp at hp;done)
  |(exfalso;omega)
  |exact z101.l0_sound hI st p hp
theorem z101.inlF:InlF Tryz.prog z101.C where
 prim g h hp:=by simp [z101.C] at hp
 fn g fn h:=by
  unfold z101.C at h;simp only at h;split at h
  ·simp only [Option.some.injEq] at h;subst h;exact ⟨_,_,⟨Tryz.func179,rfl,by kernel_rfl⟩,rfl⟩
  ·simp at h
 loops g fn h:=by
  unfold z101.C at h;simp only at h;split at h
  ·simp only [Option.some.injEq] at h;subst h;exact λhI base=>z101.loops179 hI base
  ·simp at h
theorem z101.hdec:Wd z105.dec z101.enc:=by
 intro v r h
 unfold z105.dec at h;split at h<;>cases h
 exact ⟨rfl,rfl⟩
theorem z101.noTop:LoopsOK z101.C (λR=>z101.C.inlK 6) 136 0 (ifun Tryz.f136).body:=by
 intro id b hm st p hp
 exfalso
 unfold z101.C at hp
 simp only at hp
 try split at hp
 all_goals first|(simp at hp;done)|omega
theorem z101.sound:Sn z101.pack 136:=by
 intro vs p h;unfold z101.pack at h;split at h<;>cases h
 exact Wy Qd Qe rfl (Qa z80.sound Qh) z101.inlF ⟨Tryz.func136,rfl,by kernel_rfl⟩ (λ_=>z101.noTop) rfl (z101.link _ _ _) z101.hdec
theorem z102.sound:Sn z102.pack 181:=by
 intro vs p h;unfold z102.pack at h;split at h<;>cases h
 exact Qi Qd Qe rfl rfl rfl rfl (Qa z28.sound (Qa z33.sound (Qa z5.sound Qh))) ⟨Tryz.func181,rfl,by kernel_rfl⟩ rfl (z102.link _ _ _) z26.hdec
theorem z103.sound:Sn z103.pack 137:=by
 intro vs p h;unfold z103.pack at h;split at h<;>cases h
 exact Qi Qd Qe rfl rfl rfl rfl (Qa z52.sound (Qa z102.sound Qh)) ⟨Tryz.func137,rfl,by kernel_rfl⟩ rfl (z103.link _ _) z26.hdec
theorem z104.sound:Sn z104.pack 79:=by
 intro vs p h;unfold z104.pack at h;split at h<;>cases h
 exact Qi Qd Qe rfl rfl rfl rfl (Qa z101.sound (Qa z76.sound (Qa z38.sound (Qa z103.sound (Qa z6.sound Qh))))) ⟨Tryz.func79,rfl,by kernel_rfl⟩ rfl (z104.link _ _ _ _ _) z26.hdec
theorem z105.l0_sound (hI:InlOK Tryz.prog z105.C λR=>z105.C.inlK 6):Ql z105.C 6 31 0 0 (Qg 0 (ifun Tryz.f31).body) z105.l0sh z105.l0pack:=by
 refine Qo λls p h=>?_
 unfold z105.l0pack at h;split at h<;>cases h
 rename_i a b c e g j
 exact Qv hI (sh:=z105.l0sh) (so:=z105.l0sh) (F:=λR rec done x=>z105.l0P c e rec done x) (enc:=λ(x':(Int×J0))=>Qb z105.l0sh [.s a,.i b,.lr c,.i e,.i x'.1,.li x'.2]) [4,5] [4,5] (g,j) (by kernel_rfl) (by kernel_rfl) (λx=>by kernel_rfl) (λo=>by kernel_rfl) λR k d x'=>z105.l0_link R k d a b c e (x'.1) (x'.2)
theorem Qna:Qr (ifun Tryz.f31).body=true:=by kernel_rfl
theorem z105.loopsT (hI:InlOK Tryz.prog z105.C λR=>z105.C.inlK 6):LoopsOK z105.C (λR=>z105.C.inlK 6) 31 0 (ifun Tryz.f31).body:=by
 intro id b hm st p hp
 obtain rfl:=Qt Qna hm
 unfold z105.C at hp
 simp only at hp
 try split at hp
 all_goals first
  |(simp at hp;done)
  |(exfalso;omega)
  |exact z105.l0_sound hI st p hp
theorem z105.loops80 (hI:InlOK Tryz.prog z105.C λR=>z105.C.inlK 0) (base:Nat):LoopsOK z105.C (λR=>z105.C.inlK 0) 80 base (ifun Tryz.f80).body:=by
 intro id b hm st p hp
 exfalso
 unfold z105.C at hp
 simp only at hp
 try split at hp
 all_goals first|(simp at hp;done)|omega
theorem z105.loops78 (hI:InlOK Tryz.prog z105.C λR=>z105.C.inlK 1) (base:Nat):LoopsOK z105.C (λR=>z105.C.inlK 1) 78 base (ifun Tryz.f78).body:=by
 intro id b hm st p hp
 exfalso
 unfold z105.C at hp
 simp only at hp
 try split at hp
 all_goals first|(simp at hp;done)|omega
theorem z105.inlF:InlF Tryz.prog z105.C where
 prim g h hp:=by
  unfold z105.C at hp;simp only at hp;split at hp
  ·simp only [Option.some.injEq] at hp;subst hp;exact prim135
  ·simp at hp
 fn g fn h:=by
  unfold z105.C at h;simp only at h;split at h
  ·simp only [Option.some.injEq] at h;subst h;exact ⟨_,_,fun80,rfl⟩
  ·simp only [Option.some.injEq] at h;subst h;exact ⟨_,_,fun78,rfl⟩
  ·simp at h
 loops g fn h:=by
  unfold z105.C at h;simp only at h;split at h
  ·simp only [Option.some.injEq] at h;subst h;exact λhI base=>z105.loops80 hI base
  ·simp only [Option.some.injEq] at h;subst h;exact λhI base=>z105.loops78 hI base
  ·simp at h
theorem z105.sound:Sn z105.pack 31:=by
 intro vs p h;unfold z105.pack at h;split at h<;>cases h
 exact Wy Qd Qe rfl (Qa z100.sound (Qa z104.sound Qh)) z105.inlF ⟨Tryz.func31,rfl,by kernel_rfl⟩ z105.loopsT rfl (z105.link _) z101.hdec
theorem z106.sound:Sn z106.pack 26:=by
 intro vs p h;unfold z106.pack at h;split at h<;>cases h
 exact Qi Qd Qe rfl rfl rfl rfl (Qa z97.sound (Qa z105.sound Qh)) ⟨Tryz.func26,rfl,by kernel_rfl⟩ rfl z106.link z8.hdec
theorem z107.l0_sound (hI:InlOK Tryz.prog z107.C λR=>z107.C.inlK 6):Ql z107.C 6 27 0 0 (Qg 0 (ifun Tryz.f27).body) z107.l0sh z107.l0pack:=by
 refine Qo λls p h=>?_
 unfold z107.l0pack at h;split at h<;>cases h
 rename_i a c e g j
 exact Yc hI (sh:=z107.l0sh) (so:=z107.l0sh) (so':=z107.l0so1) (F:=λR rec done x=>z107.l0P a c g rec done x) (enc:=λ(x':Int)=>Qb z107.l0sh [.lr a,.lr c,.b e,.i g,.i x']) (.exit 0) [4] [4] [0] j (by kernel_rfl) (by kernel_rfl) (λx=>by kernel_rfl) (λo=>by kernel_rfl) (λo=>by kernel_rfl) λR k d x'=>z107.l0_link R k d a c e g (x')
theorem Qqc:Qr (ifun Tryz.f27).body=true:=by kernel_rfl
theorem z107.loopsT (hI:InlOK Tryz.prog z107.C λR=>z107.C.inlK 6):LoopsOK z107.C (λR=>z107.C.inlK 6) 27 0 (ifun Tryz.f27).body:=by
 intro id b hm st p hp
 obtain rfl:=Qt Qqc hm
 unfold z107.C at hp
 simp only at hp
 try split at hp
 all_goals first
  |(simp at hp;done)
  |(exfalso;omega)
  |exact z107.l0_sound hI st p hp
theorem z107.sound:Sn z107.pack 27:=by
 intro vs p h;unfold z107.pack at h;split at h<;>cases h
 exact Q7 Qd Qe rfl rfl rfl Qw ⟨Tryz.func27,rfl,by kernel_rfl⟩ z107.loopsT rfl (z107.link _ _) z8.hdec
theorem fun7:FunOK Tryz.prog 7 Tryz.f7 (ifun Tryz.f7).body:=⟨Tryz.func7,rfl,by kernel_rfl⟩
theorem z108.sound:Sn z108.pack 7:=by
 intro vs p h;unfold z108.pack at h;split at h<;>cases h
 exact Qi Qd Qe rfl rfl rfl rfl (Qa z97.sound (Qa z106.sound (Qa z100.sound (Qa z105.sound (Qa z107.sound Qh))))) fun7 rfl (z108.link _) z8.hdec
end
end Go.Proofs.YtjfipepaaddlmaaGreatDoor.A
end
section
namespace Go.Proofs.YtjfipepaaddlmaaGreatDoor.A
open Go Go.RowKit Go.ChangeShapes Go.WideShapes
noncomputable section
inductive SC where
 |b
 |i (k:IntKind)
 |s
inductive CT where
 |sc (c:SC)
 |sl (cs:List SC)
def scOf:CT->Option SC
 |.sc c=>some c
 |_=>none
def Yp:List CT->Option (List SC)
 |[]=>some []
 |c::l=>(scOf c).bind λx=>(Yp l).map (x :: ·)
def okS:SC->V->Prop
 |.b,v=>∃x,v=.bool x
 |.i k,v=>∃n,v=.int k n/\(Lit.int k n).wf=true
 |.s,v=>∃l,v=.str l/\l.length<=maxLen
def okSL:List SC->List V->Prop
 |[],vs=>vs=[]
 |c::cs,vs=>∃v l,vs=v::l/\okS c v/\okSL cs l
def okC:CT->V->Prop
 |.sc c,v=>okS c v
 |.sl [.i k],v=>∃l,v=.ints false k l/\(∀n∈l,(Lit.int k n).wf=true)/\l.length<=maxLen
 |.sl [.s],v=>∃l,v=.strs false l/\(∀s∈l,s.length<=maxLen)/\l.length<=maxLen
 |.sl cs,v=>∃l,v=.recs false cs.length l/\(∀r∈l,okSL cs r)/\l.length<=maxLen
def okCL:List CT->List V->Prop
 |[],vs=>vs=[]
 |c::cs,vs=>∃v l,vs=v::l/\okC c v/\okCL cs l
def ctsF (P:Program) (rec:TypeId->Option (List CT)):Nat->List Field->Option (List CT)
 |_,[]=>some []
 |off,f::fs=>if f.offset=off then (rec f.type).bind λl=>if P.cellsOf f.type=l.length then (ctsF P rec (off+l.length) fs).map (l ++ ·) else none else none
def ctsA (l:List CT):Nat->List CT
 |0=>[]
 |n+1=>l++ctsA l n
def cts (P:Program):Nat->TypeId->Option (List CT)
 |0,_=>none
 |
  n+1,t=>
  match P.underlying t with
  |some .bool=>some [.sc .b]
  |some (.int k)=>some [.sc (.i k)]
  |some .string=>some [.sc .s]
  |some (.struct fs)=>(ctsF P (cts P n) 0 fs.toList).bind λl=>if P.cellsOf t=l.length then some l else none
  |some (.array m e)=>(cts P n e).bind λl=>if P.cellsOf e=l.length/\P.cellsOf t=m*l.length then some (ctsA l m) else none
  |some (.slice e)=>(cts P n e).bind λl=>(Yp l).bind λcs=>if P.cellsOf e=cs.length/\0<cs.length then some [.sl cs] else none
  |_=>none
abbrev noO:Nat->Prop:=λ_=>False
def Qj0 (W:World) (c:CT) (cv:Value) (v:V):Prop:=okC c v/\Rep0 noO W cv v/\cv.oneCell'=true
def Yk (W:World) (l:List CT) (cs:List Value) (vs:List V):Prop:=
 cs.length=l.length/\vs.length=l.length/\∀(j:Nat) (c:CT) (cv:Value) (v:V),l[j]? = some c->cs[j]? = some cv->vs[j]? = some v->Qj0 W c cv v
theorem cellsR_nil (W:World):Yk W [] [] []:=⟨rfl,rfl,λ(j:Nat) c cv v h=>by simp at h⟩
theorem Qbn {W:World} {c:CT} {cv:Value} {v:V} (h:Qj0 W c cv v):Yk W [c] [cv] [v]:=by
 refine ⟨rfl,rfl,λj c' cv' v' h1 h2 h3=>?_⟩
 cases j with
 |zero=>simp at h1 h2 h3;subst h1 h2 h3;exact h
 |succ j=>simp at h1
theorem Qiz {W:World} {l l':List CT} {cs cs':List Value} {vs vs':List V} (h:Yk W l cs vs) (h':Yk W l' cs' vs'):Yk W (l++l') (cs++cs') (vs++vs'):=by
 obtain ⟨a1,a2,a3⟩:=h;obtain ⟨b1,b2,b3⟩:=h'
 refine ⟨by simp [a1,b1],by simp [a2,b2],λj c cv v h1 h2 h3=>?_⟩
 by_cases hj:j<l.length
 ·rw [Z25 hj] at h1
  rw [Z25 (by omega)] at h2 h3
  exact a3 j c cv v h1 h2 h3
 ·rw [Z46 (by omega)] at h1 h2 h3
  rw [a1] at h2;rw [a2] at h3
  exact b3 _ c cv v h1 h2 h3
theorem Qgd {W:World}:∀{l:List CT} {cs:List Value} {vs:List V},Yk W l cs vs->okCL l vs
 |[],cs,vs,h=>List.length_eq_zero_iff.1 h.2.1
 |
  c::l,cs,vs,h=>by
  obtain ⟨h1,h2,h3⟩:=h
  match cs,vs,h1,h2 with
  |
   cv::cs,v::vs,h1,h2=>
   exact ⟨v,vs,rfl,(h3 0 c cv v rfl rfl rfl).1,Qgd (cs:=cs) ⟨by simpa using h1,by simpa using h2,λj c' cv' v' a b d=>h3 (j+1) c' cv' v' (by simpa using a) (by simpa using b) (by simpa using d)⟩⟩
theorem Qlo:∀{l:List CT} {ss:List SC} {vs:List V},Yp l=some ss->okCL l vs->okSL ss vs
 |[],ss,vs,h,hv=>by simp [Yp] at h;subst h;exact hv
 |
  c::l,ss,vs,h,hv=>by
  simp only [Yp,Z4,Z16] at h
  obtain ⟨x,hx,y,hy,rfl⟩:=h
  obtain ⟨v,r,rfl,h1,h2⟩:=hv
  refine ⟨v,r,rfl,?_,Qlo hy h2⟩
  cases c with
  |sc c=>simp [scOf] at hx;subst hx;exact h1
  |sl _=>simp [scOf] at hx
theorem Qil:∀{l:List CT} {ss:List SC},Yp l=some ss->ss.length=l.length
 |[],ss,h=>by simp [Yp] at h;subst h;rfl
 |
  c::l,ss,h=>by
  simp only [Yp,Z4,Z16] at h
  obtain ⟨x,hx,y,hy,rfl⟩:=h
  simp [Qil hy]
theorem Qeo {α:Type} {Q:Nat->α->Prop}:∀{n:Nat},(∀i,i<n->∃x,Q i x)->∃l:List α,l.length=n/\∀(i:Nat) (x:α),l[i]? = some x->Q i x
 |0,_=>⟨[],rfl,λi x h=>by simp at h⟩
 |
  n+1,h=>by
  obtain ⟨l,h1,h2⟩:=Qeo (n:=n) λi hi=>h i (by omega)
  obtain ⟨x,hx⟩:=h n (by omega)
  refine ⟨l++[x],by simp [h1],λi y hy=>?_⟩
  by_cases hi:i<l.length
  ·rw [Z25 hi] at hy;exact h2 i y hy
  ·rw [Z46 (by omega)] at hy
   have:i-l.length=0:=by
    rcases Z53 (i-l.length) 1 with h0|h0
    ·omega
    ·rw [Z12 (by simp;omega)] at hy;simp at hy
   rw [this] at hy;simp at hy;subst hy
   have:i=n:=by omega
   subst this;exact hx
theorem Qi0 {α:Type} (z:Nat) (hz:0<z):∀(l:List (List α)) (j:Nat),(∀e∈l,e.length=z)->l.flatten[j]? = (l[j/z]?).bind (·[j%z]?)
 |[],j,_=>by simp
 |
  e::l,j,h=>by
  have he:=h e (by simp)
  rw [Z51]
  by_cases hj:j<z
  ·rw [Z25 (by omega),Nat.div_eq_of_lt hj,Nat.mod_eq_of_lt hj];rfl
  ·rw [Z46 (by omega),Qi0 z hz l _ (λx hx=>h x (by simp [hx])),he]
   have h1:j/z=(j-z)/z+1:=by rw [<-Nat.add_div_right (j-z) hz,Nat.sub_add_cancel (by omega)]
   have h2:j%z=(j-z)%z:=by rw [<-Nat.add_mod_right (j-z) z,Nat.sub_add_cancel (by omega)]
   rw [h1,h2];rfl
theorem ones {α:Type} {c:SC} {f:α->V} {Q:α->Prop} (hc:∀v,okS c v->∃n,v=f n/\Q n):∀vss:J2,(∀r∈vss,okSL [c] r) ->
  ∃zs:List α,vss.flatten=zs.map f/\zs.length=vss.length/\∀n∈zs,Q n
 |[],_=>⟨[],rfl,rfl,by simp⟩
 |
  r::vss,h=>by
  obtain ⟨zs,e1,e2,e3⟩:=ones hc vss λx hx=>h x (by simp [hx])
  obtain ⟨v,l,rfl,hv,hl⟩:=h r (by simp)
  have hl:l=[]:=hl
  subst hl
  obtain ⟨n,rfl,hq⟩:=hc v hv
  exact ⟨n::zs,by simp [e1],by simp [e2],by simpa using ⟨hq,e3⟩⟩
theorem Qsu {W:World} {t e n m:Nat} {ss:List SC} {l:List CT} {a:Addr} {len cap:Nat} (hs:Yp l=some ss) (hz:0<ss.length) (hl:len<=cap) (hm:cap<=maxLen)
  (h:∀i,i<len->∃cs vs,W.cells? 0 (a.add (i*ss.length)) ss.length=some cs/\Yk W l cs vs):∃v,okC (.sl ss) v/\Rep0 noO W (.slice (some a) len cap) v:=by
 obtain ⟨rows,h1,h2⟩:=Qeo h
 have hsl:=Qil hs
 have hrow:∀(i:Nat) (r:List Value),rows[i]? = some r->∃vs:List V,r.length=ss.length/\okSL ss vs/\vs.length=ss.length/\∀(j:Nat) (cv:Value) (v:V),r[j]? = some cv->vs[j]? = some v->W.cell? (a.add (i*ss.length+j))=some cv/\Rep0 noO W cv v/\cv.oneCell'=true:=by
  intro i r hr
  obtain ⟨vs,hc,hv⟩:=h2 i r hr
  obtain ⟨_,hlen,hcell⟩:=World.cells?_some hc
  refine ⟨vs,hlen,Qlo hs (Qgd hv),hv.2.1.trans hsl.symm,λj cv v hj hjv=>?_⟩
  have hjl:j<l.length:=by have:=(List.getElem?_eq_some_iff.1 hj).1;omega
  have:=hv.2.2 j l[j] cv v (by simp) hj hjv
  refine ⟨?_,this.2⟩
  rw [<-Go.Deep.add_add,hcell j (by omega),hj]
 have hall:∀i,i<rows.length->∃vs:List V,okSL ss vs/\vs.length=ss.length/\∀(j:Nat) (v:V),vs[j]? = some v->∃cv,W.cell? (a.add (i*ss.length+j))=some cv/\Rep0 noO W cv v/\cv.oneCell'=true:=by
  intro i hi
  obtain ⟨vs,q1,q2,q3,q4⟩:=hrow i rows[i] (by simp [hi])
  refine ⟨vs,q2,q3,λj v hv=>?_⟩
  have:j<ss.length:=by have:=(List.getElem?_eq_some_iff.1 hv).1;omega
  exact ⟨_,q4 j (rows[i][j]'(by omega)) v (by simp) hv⟩
 obtain ⟨vss,g1,g2⟩:=Qeo hall
 have hvlen:∀e∈vss,e.length=ss.length:=λe he=>by obtain ⟨i,hi,rfl⟩:=Z65 he;exact (g2 i _ (by simp [hi])).2.1
 have gen:∀v:V,flatV v=some (len,vss.flatten)->isExact v=false->Rep0 noO W (.slice (some a) len cap) v:=by
  intro v hf hx
  have hcell:∀(j:Nat) (v:V),vss.flatten[j]? = some v->∃cv,W.cell? (a.add j)=some cv/\Rep0 noO W cv v/\cv.oneCell'=true:=by
   intro j v hv
   rw [Qi0 ss.length hz vss j hvlen] at hv
   obtain ⟨r,hr,hv⟩:=Z4.1 hv
   obtain ⟨cv,k1,k2⟩:=(g2 _ r hr).2.2 _ v hv
   refine ⟨cv,?_,k2⟩
   rw [show j=j/ss.length*ss.length+j%ss.length by rw [Z44];exact (Z58 j ss.length).symm]
   exact k1
  refine .slice (some a) len cap v vss.flatten (λj=>(W.cell? (a.add j)).getD Go.undef) hf (by simp [hx]) hl (by simp) (λj hj=>?_) (λj hj=>?_) (λj hj=>?_)
  ·obtain ⟨cv,k1,k2,k3⟩:=hcell j _ (Z1 hj)
   exact ⟨a,rfl,λh=>h.elim,by rw [k1];rfl⟩
  ·obtain ⟨cv,k1,k2,k3⟩:=hcell j _ (Z1 hj)
   rw [k1];exact k3
  ·obtain ⟨cv,k1,k2,k3⟩:=hcell j _ (Z1 hj)
   rw [k1];exact k2
 have hlen':vss.length=len:=by omega
 have recs:∃v,(∃l,v=V.recs false ss.length l/\(∀r∈l,okSL ss r)/\l.length<=maxLen)/\Rep0 noO W (.slice (some a) len cap) v:=by
  refine ⟨.recs false ss.length vss,⟨vss,rfl,λr hr=>?_,by omega⟩,gen _ ?_ rfl⟩
  ·obtain ⟨i,hi,rfl⟩:=Z65 hr;exact (g2 i _ (by simp [hi])).1
  ·simp only [flatV];rw [if_pos ⟨hz,hvlen⟩,hlen']
 match ss,hs,hz,recs,g2,gen,hvlen with
 |[],_,hz,_,_,_,_=>simp at hz
 |[.b],_,_,recs,_,_,_=>exact recs
 |x::y::_,_,_,recs,_,_,_=>exact by cases x<;>exact recs
 |
  [.i k],_,_,recs,g2,gen,hvlen=>
  obtain ⟨zs,e1,e2,e3⟩:=ones (c:=.i k) (f:=V.int k) (λv h=>h) vss λr hr=>by
   obtain ⟨i,hi,rfl⟩:=Z65 hr;exact (g2 i _ (by simp [hi])).1
  refine ⟨.ints false k zs,⟨zs,rfl,e3,by omega⟩,gen _ ?_ rfl⟩
  simp only [flatV];rw [e1,e2,hlen']
 |
  [.s],_,_,recs,g2,gen,hvlen=>
  obtain ⟨zs,e1,e2,e3⟩:=ones (c:=.s) (f:=V.str) (λv h=>h) vss λr hr=>by
   obtain ⟨i,hi,rfl⟩:=Z65 hr;exact (g2 i _ (by simp [hi])).1
  refine ⟨.strs false zs,⟨zs,rfl,e3,by omega⟩,gen _ ?_ rfl⟩
  simp only [flatV];rw [e1,e2,hlen']
theorem Qrb {W:World} {ss:List SC} (hz:0<ss.length):∃v,okC (.sl ss) v/\Rep0 noO W (.slice none 0 0) v:=by
 have gen:∀v:V,flatV v=some (0,[])->isExact v=false->Rep0 noO W (.slice none 0 0) v:=λv hf hx=>
  .slice none 0 0 v [] (λ_=>Go.undef) hf (by simp [hx]) (Z5 _) (λ_=>rfl) (λj hj=>by simp at hj) (λj hj=>by simp at hj) (λj hj=>by simp at hj)
 match ss,hz with
 |[.i k],_=>exact ⟨.ints false k [],⟨[],rfl,by simp,by simp⟩,gen _ rfl rfl⟩
 |[.s],_=>exact ⟨.strs false [],⟨[],rfl,by simp,by simp⟩,gen _ rfl rfl⟩
 |[.b],_=>exact ⟨.recs false 1 [],⟨[],rfl,by simp,by simp⟩,gen _ (by simp [flatV]) rfl⟩
 |a::a'::ss,_=>exact ⟨.recs false (a::a'::ss).length [],by cases a<;>exact ⟨[],rfl,by simp,by simp⟩,gen _ (by simp [flatV]) rfl⟩
section
variable {H:Type} {enc:TypeId×Value->H} {P:Program} {W:World}
theorem Qdf:∀(n:Nat) (t:TypeId) (l:List CT),cts P n t=some l->∀(fuel:Nat) (cs:List Value) (x:DataW H×List MemPlace),DataW.trod enc P W 0 (λ_=>true) true fuel t cs=some x ->
  ∃vs,Yk W l cs vs
 |0,t,l,h,_,_,_,_=>by simp [cts] at h
 |
  n+1,t,l,h,fuel,cs,x,hx=>by
  unfold cts at h
  split at h
  ·rename_i ht
   simp at h;subst h
   obtain ⟨bb,rfl,_⟩:=DataW.trod_bool ht hx
   exact ⟨[.bool bb],Qbn ⟨⟨bb,rfl⟩,.bool bb,rfl⟩⟩
  ·rename_i k ht
   simp at h;subst h
   obtain ⟨b,rfl,_,hw⟩:=DataW.trod_int ht hx
   exact ⟨[.int k b],Qbn ⟨⟨b,rfl,hw⟩,.int k b,rfl⟩⟩
  ·rename_i ht
   simp at h;subst h
   obtain ⟨b,rfl,_,hw⟩:=DataW.trod_string ht hx
   exact ⟨[.str b.data.toList],Qbn ⟨⟨_,rfl,by simpa using hw⟩,.str _ _ rfl,rfl⟩⟩
  ·rename_i fs ht
   obtain ⟨l',h1,h2⟩:=Z4.1 h
   split at h2
   case isFalse=>simp at h2
   rename_i hsz
   simp at h2;subst h2
   obtain ⟨xs,m,_,_,hlen,hxl,hf⟩:=DataW.trod_struct ht hx
   have key:∀(gs:List Field) (off:Nat) (l':List CT),ctsF P (cts P n) off gs=some l'->(∀f∈gs,∃y,DataW.trod enc P W 0 (λ_=>true) true m f.type ((cs.drop f.offset).take (P.cellsOf f.type))=some y) ->
     ∃vs,Yk W l' ((cs.drop off).take l'.length) vs:=by
    intro gs
    induction gs with
    |nil=>intro off l' h _;simp [ctsF] at h;subst h;exact ⟨[],by simpa using cellsR_nil W⟩
    |
     cons f gs ih=>
     intro off l' h hg
     unfold ctsF at h
     split at h
     case isFalse=>simp at h
     rename_i hoff
     obtain ⟨lf,h1,h2⟩:=Z4.1 h
     split at h2
     case isFalse=>simp at h2
     rename_i hsz
     obtain ⟨l2,h3,rfl⟩:=Z16.1 h2
     obtain ⟨y,hy⟩:=hg f (by simp)
     obtain ⟨vs1,c1⟩:=Qdf n f.type lf h1 m _ y hy
     obtain ⟨vs2,c2⟩:=ih _ _ h3 λf' hf'=>hg f' (by simp [hf'])
     refine ⟨vs1++vs2,?_⟩
     have hc:=Qiz c1 c2
     rw [hoff,hsz] at hc
     have hl1:lf.length<=(cs.drop off).length:=by
      have:=c1.1;rw [hoff,hsz,Z14] at this;omega
     rw [Z8,List.take_add,Z82]
     exact hc
   have hall:∀f∈fs.toList,∃y,DataW.trod enc P W 0 (λ_=>true) true m f.type ((cs.drop f.offset).take (P.cellsOf f.type))=some y:=by
    intro f hf'
    obtain ⟨i,hi,rfl⟩:=Z65 hf'
    have hi':i<fs.size:=by simpa using hi
    have:=hf i (fs.toList[i]) (by simp [hi'])
    rw [Z1 (by omega)] at this
    exact ⟨_,this⟩
   obtain ⟨vs,hv⟩:=key fs.toList 0 _ h1 hall
   refine ⟨vs,?_⟩
   rwa [Z76,Z27 (by omega)] at hv
  ·rename_i m e ht
   obtain ⟨l',h1,h2⟩:=Z4.1 h
   split at h2
   case isFalse=>simp at h2
   rename_i hsz
   simp at h2;subst h2
   obtain ⟨xs,q,_,_,hlen,hxl,hf⟩:=DataW.trod_array ht hx
   have key:∀(k:Nat),k<=m->∃vs,Yk W (ctsA l' k) ((cs.drop ((m-k)*l'.length)).take (k*l'.length)) vs:=by
    intro k
    induction k with
    |zero=>intro _;exact ⟨[],by simpa [ctsA] using cellsR_nil W⟩
    |
     succ k ih=>
     intro hk
     obtain ⟨vs2,c2⟩:=ih (by omega)
     have h3:=hf (m-(k+1)) (by omega)
     rw [Z1 (by omega)] at h3
     obtain ⟨vs1,c1⟩:=Qdf n e l' h1 q _ _ h3
     refine ⟨vs1++vs2,?_⟩
     have hc:=Qiz c1 c2
     rw [hsz.1] at hc
     have e1:(m-k)*l'.length=(m-(k+1))*l'.length+l'.length:=by
      rw [<-Nat.succ_mul];congr 1;omega
     have e2:(k+1)*l'.length=l'.length+k*l'.length:=by rw [Nat.succ_mul,Nat.add_comm]
     rw [e1,<-Z82] at hc
     rw [e2,List.take_add]
     exact hc
   obtain ⟨vs,hv⟩:=key m (Z5 _)
   refine ⟨vs,?_⟩
   rwa [Nat.sub_self,Nat.zero_mul,Z76,Z27 (by omega)] at hv
  ·rename_i e ht
   obtain ⟨l',h1,h2⟩:=Z4.1 h
   obtain ⟨ss,h3,h4⟩:=Z4.1 h2
   split at h4
   case isFalse=>simp at h4
   rename_i hsz
   simp at h4;subst h4
   rcases Go.Deep.open_slice ht hx with ⟨rfl,_⟩|⟨a,len,cap,m,q,D,Pl,rfl,_,hl,hm,hmm,_,hi⟩
   ·obtain ⟨v,k1,k2⟩:=Qrb (W:=W) hsz.2
    exact ⟨[v],Qbn ⟨k1,k2,rfl⟩⟩
   ·simp only [if_true] at hmm
    subst hmm
    rw [hsz.1] at hi
    obtain ⟨v,k1,k2⟩:=Qsu (t:=0) (e:=0) (n:=0) (m:=0) h3 hsz.2 hl hm λi hi'=>by
     obtain ⟨cs',c1,c2⟩:=hi i (by omega)
     obtain ⟨vs,c3⟩:=Qdf n e l' h1 q _ _ c2
     exact ⟨cs',vs,c1,c3⟩
    exact ⟨[v],Qbn ⟨k1,k2,rfl⟩⟩
  ·simp at h
inductive AT where
 |one (c:CT)
 |agg (l:List CT)
def okA:AT->V->Prop
 |.one c,v=>okC c v
 |.agg l,v=>∃vs,v=.agg vs/\okCL l vs
def okAL:List AT->List V->Prop
 |[],vs=>vs=[]
 |c::cs,vs=>∃v l,vs=v::l/\okA c v/\okAL cs l
def atOf (P:Program) (n:Nat) (t:TypeId):Option AT:=
 (cts P n t).bind λl=>match P.underlying t with
  |some (.struct _)|some (.array _ _)=>some (.agg l)
  |
   _=>match l with
   |[c]=>some (.one c)
   |_=>none
def Qam (P:Program) (n:Nat):List TypeId->Option (List AT)
 |[]=>some []
 |t::ts=>(atOf P n t).bind λx=>(Qam P n ts).map (x :: ·)
theorem Qo7 {n:Nat} {t:TypeId} {q:AT} (hq:atOf P n t=some q) {base:Nat} {v:Value} {d:DataW H} {ps:List MemPlace} (hval:Value.okWide P W .any base t v) (h:DataW.Trod enc P W 0 (λ_=>true) true t v d ps) :
  ∃x,okA q x/\Rep0 noO W v x:=by
 obtain ⟨l,h1,h2⟩:=Z4.1 hq
 obtain ⟨fuel,hf⟩:=h
 obtain ⟨vs,hv⟩:=Qdf n t l h1 fuel _ _ hf
 have aggCase:(∃cs,v=.agg cs)->∃x,okA (.agg l) x/\Rep0 noO W v x:=by
  rintro ⟨cs,rfl⟩
  have hc:(Value.agg cs).cells.toList=cs.toList:=rfl
  rw [hc] at hv
  refine ⟨.agg vs,⟨vs,rfl,Qgd hv⟩,.agg cs vs (by have:=hv.1;have:=hv.2.1;simp at *;omega) (λj hj=>?_) (λj hj=>?_)⟩ <;>
  ·have hj1:j<cs.size:=by have:=hv.1;have:=hv.2.1;simp at *;omega
   have:=hv.2.2 j (l[j]'(by have:=hv.2.1;omega)) cs[j] vs[j] (by simp) (by simp [hj1]) (by simp)
   have e:cs.getD j Go.undef=cs[j]:=by simp [Array.getD,hj1]
   rw [e]
   first|exact this.2.2|exact this.2.1
 split at h2
 ·rename_i fs ht
  simp at h2;subst h2
  obtain ⟨cs,rfl,_⟩:=okWide_struct ht hval
  exact aggCase ⟨cs,rfl⟩
 ·rename_i m e ht
  simp at h2;subst h2
  unfold Value.okWide at hval
  rw [ht] at hval
  obtain ⟨cs,rfl,_⟩:=hval
  exact aggCase ⟨cs,rfl⟩
 ·rename_i hns hna
  split at h2
  case h_2=>simp at h2
  rename_i c
  simp at h2;subst h2
  obtain ⟨a1,a2,a3⟩:=hv
  match vs,a2 with
  |
   [x],_=>
   have hcells:v.cells = #[v]:=by
    cases v with
    |
     agg cs=>
     exfalso
     unfold Value.okWide at hval
     cases n with
     |zero=>simp [cts] at h1
     |
      succ n=>
      unfold cts at h1
      split at h1<;>rename_i ht
      ·rw [ht] at hval;simp [Cell.okWide,Cell.ok,ht] at hval
      ·rw [ht] at hval;simp [Cell.okWide,Cell.ok,ht] at hval
      ·rw [ht] at hval;simp [Cell.okWide,Cell.ok,ht] at hval
      ·exact hns _ ht
      ·exact hna _ _ ht
      ·rw [ht] at hval;simp [Cell.okWide,Cell.ok,ht] at hval
      ·simp at h1
    |_=>rfl
   rw [hcells] at a3
   have:=a3 0 c v x rfl rfl rfl
   exact ⟨x,this.1,this.2.1⟩
theorem Qh1 {n:Nat}:∀{ts:List TypeId} {qs:List AT} {args:List Value} {ds:List (DataW H)} {ps:List MemPlace} {base:Nat},Qam P n ts=some qs->DataW.TrodAll enc P W 0 (λ_=>true) true ts args ds ps ->
  (∀(j:Nat) t v,ts[j]? = some t->args[j]? = some v->Value.okWide P W .any base t v) ->
  ∃vs,args.length=vs.length/\okAL qs vs/\∀j (h:j<vs.length),Rep0 noO W (args.getD j Go.undef) vs[j]
 |
  [],qs,args,ds,ps,base,hq,h,_=>by
  simp [Qam] at hq;subst hq
  obtain ⟨rfl,rfl,rfl⟩:=trodAll_nil h
  exact ⟨[],rfl,rfl,λj h=>by simp at h⟩
 |
  t::ts,qs,args,ds,ps,base,hq,h,hval=>by
  simp only [Qam,Z4,Z16] at hq
  obtain ⟨q,hq1,qs',hq2,rfl⟩:=hq
  obtain ⟨v,vs,d,ds',p,p',rfl,rfl,rfl,h1,h2⟩:=trodAll_cons h
  obtain ⟨x,k1,k2⟩:=Qo7 hq1 (hval 0 t v rfl rfl) h1
  obtain ⟨xs,l1,l2,l3⟩:=Qh1 hq2 h2 λj t v a b=>hval (j+1) t v (by simpa using a) (by simpa using b)
  refine ⟨x::xs,by simp [l1],⟨x,xs,rfl,k1,l2⟩,λj hj=>?_⟩
  cases j with
  |zero=>exact k2
  |succ j=>simpa using l3 j (by simpa using hj)
theorem Qq4 {ts:List TypeId} (hl:laidOutB P=true) (hr:ts.all (λt=>P.readableRec t&&decide (t<P.types.size))=true) {W':World} (hb:Below W.heap.size W W') {sp:Nat->Bool} :
  ∀
   {vs:List Value} {ds:List (DataW H)} {ps:List MemPlace},DataW.TrodAll enc P W 0 (λ_=>true) true ts vs ds ps->(∀x∈ps,x.block<W.heap.size)->(∀x∈ps,sp x.block=true) ->
   DataW.TrodAll enc P W' 0 sp true ts vs ds ps:=by
 induction ts with
 |
  nil=>
  intro vs ds ps h _ _
  obtain ⟨rfl,rfl,rfl⟩:=trodAll_nil h
  exact trodAll_mk0
 |
  cons t ts ih=>
  intro vs ds ps h hlt hsp
  obtain ⟨v,vs',d,ds',p,p',rfl,rfl,rfl,h1,h2⟩:=trodAll_cons h
  simp only [List.all_cons,Z3,decide_eq_true_eq] at hr
  exact trodAll_cons_mk (WideElems.Trod_stays hl hr.1.1 hr.1.2 h1 (λx hx=>hb.same (hlt x (by simp [hx]))) (λx hx=>hsp x (by simp [hx])))
   (ih hr.2 h2 (λx hx=>hlt x (by simp [hx])) (λx hx=>hsp x (by simp [hx])))
theorem Qnu {f:Func} {s:ChangeSpec} {apart fresh handsOn again:Bool} {W W':World} {args:Array Value} {v:Value} {ds gs:List (DataW H)} {before pa pv:List MemPlace}
  (hW:DataW.Whole enc P f.params.toList s.vars apart W args.toList ds gs before)
  (hres:∀(b:Nat) (sp:Nat->Bool) (hd:Bool),DataW.TrodAll enc P W' b sp hd f.resultTypes.toList (v.resultList f.resultTypes.size) (s.fn H (ds++gs)).results [])
  (hargs:∀sp:Nat->Bool,(∀p∈before,sp p.block=true)->DataW.TrodAll enc P W' 0 sp true f.params.toList args.toList (s.fn H (ds++gs)).args pa)
  (hvars:∀sp:Nat->Bool,(∀p∈before,sp p.block=true)->DataW.TrodVars enc P W' sp s.vars (s.fn H (ds++gs)).vars pv)
  (hps:before=pa++pv) (hb:Below W.heap.size W W')
  (hok:∀(j:Nat) (t:TypeId) (r:Value),f.resultTypes[j]? = some t->(v.resultList f.resultTypes.size)[j]? = some r->Value.okWide P W' .any 0 t r) :
  s.post enc P f apart fresh handsOn again W args v W':=by
 have hlt:∀p∈before,p.block<W.heap.size:=λp hp=>hW.lt p hp
 have hold:∀p∈before,(λb=>decide (b<W.heap.size)) p.block=true:=λp hp=>by simpa using hlt p hp
 refine ⟨ds,gs,before,[],pa,pv,hW,hres _ _ _,hargs _ hold,hvars _ hold,World.keptBut_mono (λp hp=>⟨hp,?_⟩) (hb.frame (·∈before)),λ_=>?_⟩
 ·rw [hps,Z47] at hp
  exact Or.inr hp
 ·obtain ⟨_,_,_,_,_,hz,hn⟩:=hW
  refine ⟨hok,_,_,([]++pa)++pv,⟨[]++pa,pv,trodAll_append (hargs _ (λ_ _=>rfl)) (hres _ _ _),hvars _ (λ_ _=>rfl),rfl,?_,?_⟩,?_⟩
  ·intro b off hp
   have hin:MemPlace.cell b off∈before:=by rw [hps];simpa using hp
   rw [hb.frozen (hlt _ hin)]
   exact hz b off hin
  ·intro ha
   have:=hn ha
   rw [hps] at this
   simpa using this
  ·intro p hp _
   rw [hps]
   simpa using hp
theorem Qqx {g:Nat} {f:Func} {c:Code} (hf:FunOK P g f c) {s:ChangeSpec} {n:Nat} {qs:List AT} {tb:TypeId} (hl:laidOutB P=true) (hr:f.params.toList.all (λt=>P.readableRec t&&decide (t<P.types.size))=true)
  (hq:Qam P n f.params.toList=some qs) (hres:f.resultTypes = #[tb]) (htb:P.underlying tb=some .bool) (hv:s.vars=[])
  (hs:∀ds:List (DataW H),ds.length=f.params.toList.length->s.fn H ds={results:=[.lit (.bool true)],args:=ds})
  (plain:∀vs,okAL qs vs->∃p r,SoundC P g vs p/\p.m=some r/\p.enc r=.bool true)
  (W:World) (base:Nat) (args:Array Value) (ds gs:List (DataW H)) (before:List MemPlace)
  (hval:∀(j:Nat) t v,f.params[j]? = some t->args[j]? = some v->Value.okWide P W .any base t v)
  (hW:DataW.Whole enc P f.params.toList s.vars false W args.toList ds gs before) :
  Calls P g args W λe W'=>∃v,e=.returned v/\s.post enc P f false true false false W args v W':=by
 have hW':=hW
 have hlt:∀p∈before,p.block<W.heap.size:=λp hp=>hW.lt p hp
 obtain ⟨p,q,hA,hV,rfl,hfz,hnd⟩:=hW
 have hA:DataW.TrodAll enc P W 0 (λ_=>true) true f.params.toList args.toList ds p:=hA
 rw [hv] at hV
 obtain ⟨rfl,rfl⟩:=trodVars_none hV
 obtain ⟨vs,h1,h2,h3⟩:=Qh1 hq hA λj t v a b=>hval j t v (by simpa using a) (by simpa using b)
 obtain ⟨pk,r,hsound,hm,he⟩:=plain vs h2
 have hcall:=hsound noO W args r hm (by simpa using h1) (λj hj=>by
  have h4:=h3 j hj
  have:args.getD j Go.undef=args.toList.getD j Go.undef:=by
   have hj':j<args.size:=by rw [<-Z21,h1];exact hj
   simp [Array.getD,List.getD,hj']
  rwa [this]) (λb h=>h.elim)
 unfold CallR at hcall
 rw [hf.enters] at hcall
 have hlen:∀{ts:List TypeId} {vs:List Value} {ds:List (DataW H)} {ps:List MemPlace},DataW.TrodAll enc P W 0 (λ_=>true) true ts vs ds ps->ds.length=ts.length:=by
  intro ts
  induction ts with
  |nil=>intro vs ds ps h;obtain ⟨_,rfl,_⟩:=trodAll_nil h;rfl
  |cons t ts ih=>intro vs ds ps h;obtain ⟨_,_,_,_,_,_,_,rfl,_,_,h2⟩:=trodAll_cons h;simp [ih h2]
 refine hcall.mono λe W' h=>?_
 cases e with
 |
  returned cv=>
  obtain ⟨hg,hrep⟩:=h
  rw [he] at hrep
  obtain rfl:cv=.bool true:=by
   cases hrep
   ·rfl
   ·rename_i hf _;cases hf
  have hb:Below W.heap.size W W':=⟨hg.os,hg.tape,hg.output,hg.size,λk hk=>hg.block k hk (by simp)⟩
  have hfn:=hs ds (hlen hA)
  refine ⟨_,rfl,Qnu (pa:=p) (pv:=[]) hW' ?_ ?_ ?_ rfl hb ?_⟩
  ·intro b sp hd
   rw [Z43,hfn,hres]
   exact trodAll_cons_mk (shut_bool htb _) trodAll_mk0
  ·intro sp hsp
   rw [Z43,hfn]
   exact Qq4 hl hr hb hA (λx hx=>hlt x (by simp [hx])) (λx hx=>hsp x (by simp [hx]))
  ·intro sp hsp
   rw [Z43,hfn,hv]
   rfl
  ·exact ok_one hres rfl (okWide_bool_mk htb _)
 |_=>exact h.elim
end
end
end Go.Proofs.YtjfipepaaddlmaaGreatDoor.A
end
section
namespace Go.Proofs.YtjfipepaaddlmaaGreatDoor.A
open Go
theorem own:ownKnob Tryz.prog.godebug=none:=by kernel_rfl
theorem laidOut:laidOutB Tryz.prog=true:=by kernel_rfl
theorem rowed:mapsRowed Tryz.prog=true:=by kernel_rfl
theorem Qpg:(Tryz.prog.stops == [])=true:=by kernel_rfl
theorem Qmq:(Tryz.prog.stopKnobs == [])=true:=by kernel_rfl
theorem Qoz:Tryz.prog.stopsHeard=true:=by kernel_rfl
theorem Qre:Tryz.prog.mayEnter=true:=by kernel_rfl
theorem Qsi:false=Tryz.prog.looks []:=by kernel_rfl
theorem main:Tryz.pinned.checked.prog.mainIs=some (true,("cfe5d7253a358151c2ab5ce2983a554a030f76eb31568c1f02fd0fb291c53683":String).toList):=by kernel_rfl
noncomputable def relay (l:J0):Obj->Obj
 |.cells _ t fz=>.cells (l.map λn=>Value.int .u8 n).toArray t fz
 |o=>o
noncomputable def accept:J0:=[128,191,160,191,128,159,144,191,128,143,0,0,0,0,0,0,0,0,0,0,0,0,0,0,0,0,0,0,0,0,0,0]
noncomputable def Qga (os:Os):World:=
 let w:=World.holding Tryz.prog os ⟨#[],#[],[]⟩
 {w with heap:=(w.heap.modify 3 (relay (Go.Pinned.utf8FirstZ.map Int.ofNat))).modify 4 (relay accept)}
def Runs {σ R:Type} (F:(σ->Option R)->σ->Option R) (x:σ) (r:R):Prop:=
 (∃n,Q0 F n x=some r)/\∀n,Q0 F n x=none\/Q0 F n x=some r
theorem Runs.done {σ R:Type} {F:(σ->Option R)->σ->Option R} {x:σ} {r:R} (h:∀rec,F rec x=some r):Runs F x r:=by
 refine ⟨⟨1,h _⟩,λn=>?_⟩
 cases n with
 |zero=>exact .inl rfl
 |succ n=>exact .inr (h _)
theorem Runs.step {σ R:Type} {F:(σ->Option R)->σ->Option R} {x y:σ} {r:R} (h:∀rec,F rec x=rec y) (hy:Runs F y r):Runs F x r:=by
 obtain ⟨⟨m,hm⟩,ha⟩:=hy
 refine ⟨⟨m+1,by rw [<-hm];exact h _⟩,λn=>?_⟩
 cases n with
 |zero=>exact .inl rfl
 |succ n=>have:=ha n;rw [<-h (Q0 F n)] at this;exact this
theorem Runs.lfp {σ R:Type} {F:(σ->Option R)->σ->Option R} {x:σ} {r:R} (h:Runs F x r):A.lfp F x=some r:=by
 obtain ⟨⟨m,hm⟩,ha⟩:=h
 unfold A.lfp
 have hex:∃n,(Q0 F n x).isSome:=⟨m,by rw [hm];rfl⟩
 rw [dif_pos hex]
 rcases ha (Classical.choose hex) with h0|h0
 ·have:=Classical.choose_spec hex
  rw [h0] at this;simp at this
 ·exact h0
theorem Qj {n:Int} (h1:-9223372036854775808<=n) (h2:n<9223372036854775808):wr .i64 n=n:=by
 simp only [wr,IntKind.wrap,IntKind.signed,IntKind.bits]
 simp;omega
theorem Qn {n:Int} (h1:0<=n) (h2:n<18446744073709551616):wr .u64 n=n:=by
 simp only [wr,IntKind.wrap,IntKind.signed,IntKind.bits]
 simp;omega
theorem Wu (n:Int):wr .u64 n=n%18446744073709551616:=by
 simp [wr,IntKind.wrap,IntKind.signed,IntKind.bits]
theorem Qb3 {n:Int} (h1:0<=n) (h2:n<256):wr .u8 n=n:=by
 simp only [wr,IntKind.wrap,IntKind.signed,IntKind.bits]
 simp;omega
theorem Qf2 {a b:Int} (h:0<=a):Int.tdiv a b=a/b:=Int.tdiv_eq_ediv_of_nonneg h
theorem Qgk {a b:Int} (h:0<=a):Int.tmod a b=a%b:=Int.tmod_eq_emod_of_nonneg h
def toB (B n:Nat):J0:=if h:2<=B/\0<n then ((n%B:Nat):Int)::toB B (n/B) else []
termination_by n
decreasing_by exact Nat.div_lt_self h.2 h.1
def valB (B:Nat):J0->Int
 |[]=>0
 |x::l=>x+B*valB B l
theorem toB_zero (B:Nat):toB B 0=[]:=by unfold toB;rw [dif_neg];omega
theorem Yb {B n:Nat} (hB:2<=B) (hn:0<n):toB B n=((n%B:Nat):Int)::toB B (n/B):=by
 rw [toB];rw [dif_pos ⟨hB,hn⟩]
def inB (B:Nat) (l:J0):Prop:=∀x∈l,0<=x/\x<B
theorem Jk {B:Nat} {x:Int} {l:J0}:inB B (x::l)↔(0<=x/\x<B)/\inB B l:=by simp [inB]
theorem Qep (B:Nat):inB B []:=by simp [inB]
theorem Wo {B:Nat} (hB:2<=B) (n:Nat):inB B (toB B n):=by
 induction n using Nat.strongRecOn with
 |
  _ n ih=>
  rcases Z13 n with rfl|hn
  ·rw [toB_zero];exact Qep B
  ·rw [Yb hB hn,Jk]
   refine ⟨⟨by omega,?_⟩,ih _ (Nat.div_lt_self hn hB)⟩
   exact_mod_cast Z81 n (by omega)
theorem Ye {B:Nat} (hB:2<=B) (n:Nat):valB B (toB B n)=n:=by
 induction n using Nat.strongRecOn with
 |
  _ n ih=>
  rcases Z13 n with rfl|hn
  ·rw [toB_zero];rfl
  ·rw [Yb hB hn,valB,ih _ (Nat.div_lt_self hn hB)]
   exact_mod_cast Nat.mod_add_div n B
theorem Qda {B:Nat}:∀{l:J0},inB B l->0<=valB B l
 |[],_=>Int.le_refl 0
 |
  x::l,h=>by
  rw [Jk] at h
  have:=Qda h.2
  have:=Z69 (Int.natCast_nonneg B) this
  unfold valB;omega
theorem Qdh {B:Nat} (hB:2<=B):∀{l:J0},inB B l->valB B l<(B^l.length:Nat)
 |[],_=>by simp [valB]
 |
  x::l,h=>by
  rw [Jk] at h
  have h1:=Qdh hB h.2
  have h2:(B:Int)*(valB B l+1)<=B*(B^l.length:Nat):=Int.mul_le_mul_of_nonneg_left (by omega) (by omega)
  have h3:(B:Int)*(valB B l+1)=B*valB B l+B:=by rw [Int.mul_add,Int.mul_one]
  have h4:((B^(x::l).length:Nat):Int)=B*(B^l.length:Nat):=by
   rw [Z6,Z45,Z44];exact_mod_cast rfl
  rw [h4];unfold valB;omega
theorem Qim (B:Nat):∀(l l':J0),valB B (l++l')=valB B l+(B^l.length:Nat)*valB B l'
 |[],l'=>by simp [valB]
 |
  x::l,l'=>by
  rw [List.cons_append,valB,valB,Qim B l l',Z6,Z45,Z44 (B^l.length) B,Z37,Int.mul_add,Int.mul_assoc,Int.add_assoc]
theorem Qja {B:Nat} (hB:2<=B):∀{l:J0},inB B l->(∀h:l≠[],l.getLast h≠0)->l=toB B (valB B l).toNat
 |[],_,_=>by simp [valB,toB_zero]
 |
  x::l,h,hl=>by
  rw [Jk] at h
  have hn:=Qda h.2
  have ih:=Qja hB h.2 λhne=>by have:=hl (by simp);rwa [List.getLast_cons hne] at this
  have hpos:0<(valB B (x::l)).toNat:=by
   have hm:=Z69 (Int.natCast_nonneg B) hn
   unfold valB
   by_cases hx:x=0
   ·have hne:l≠[]:=λe=>by subst e;exact hl (by simp) (by simpa using hx)
    have:0<valB B l:=by
     rcases Int.lt_or_eq_of_le hn with h0|h0
     ·exact h0
     ·rw [<-h0] at ih;simp [toB_zero] at ih;exact absurd ih hne
    have:=Int.mul_pos (show (0:Int)<B by omega) this
    omega
   ·omega
  have e1:(valB B (x::l)).toNat=x.toNat+B*(valB B l).toNat:=by
   have hv:valB B (x::l)=x+B*valB B l:=rfl
   rw [hv]
   have hm:=Z69 (Int.natCast_nonneg B) hn
   have:((B*(valB B l).toNat:Nat):Int)=B*valB B l:=by rw [Z37,Int.toNat_of_nonneg hn]
   omega
  have hx:x.toNat<B:=by omega
  rw [Yb hB hpos,e1,Nat.add_mul_mod_self_left,Nat.mod_eq_of_lt hx,Nat.add_mul_div_left _ _ (by omega),Nat.div_eq_of_lt hx,Z29,<-ih,Int.toNat_of_nonneg h.1.1]
theorem Ql9 {B:Nat} (hB:2<=B) (n:Nat):∀h:toB B n≠[],(toB B n).getLast h≠0:=by
 induction n using Nat.strongRecOn with
 |
  _ n ih=>
  intro h
  rcases Z13 n with rfl|hn
  ·exact absurd (toB_zero B) h
  ·have e:=Yb hB hn
   simp only [e]
   by_cases hq:toB B (n/B)=[]
   ·simp only [hq,List.getLast_singleton]
    have h0:n/B=0:=by
     rcases Z13 (n/B) with h0|h0
     ·exact h0
     ·rw [Yb hB h0] at hq;simp at hq
    have:n<B:=by
     rcases Z53 n B with h1|h1
     ·exact h1
     ·have:=Nat.div_pos h1 (by omega);omega
    rw [Nat.mod_eq_of_lt this];omega
   ·rw [List.getLast_cons hq]
    exact ih _ (Nat.div_lt_self hn hB) hq
theorem toB_nil {B n:Nat} (hB:2<=B):toB B n=[]↔n=0:=by
 constructor
 ·intro h
  rcases Z13 n with h0|h0
  ·exact h0
  ·rw [Yb hB h0] at h;simp at h
 ·rintro rfl;exact toB_zero B
theorem Qf3 {B n:Nat} (hB:2<=B):n<B^(toB B n).length:=by
 have:=Qdh hB (Wo hB n)
 rw [Ye hB] at this
 exact_mod_cast this
theorem Jn {B:Nat} (hB:2<=B):∀{k n:Nat},n<B^k->(toB B n).length<=k
 |0,n,h=>by
         have:n=0:=by simpa using h
         subst this;simp [toB_zero]
 |
  k+1,n,h=>by
  rcases Z13 n with rfl|hn
  ·simp [toB_zero]
  ·rw [Yb hB hn,Z6]
   have:n/B<B^k:=Nat.div_lt_of_lt_mul (by rw [Z45,Z44] at h;exact h)
   have:=Jn hB this
   omega
theorem Qrr {B n:Nat} (hB:2<=B) (hn:0<n):B^((toB B n).length-1)<=n:=by
 rcases Z53 n (B^((toB B n).length-1)) with h|h
 ·have h1:=Jn hB h
  have h2:toB B n≠[]:=λe=>by rw [toB_nil hB] at e;omega
  have:=Z26.2 h2
  omega
 ·exact h
theorem bif_t {α:Type} {p:Prop} [Decidable p] {a b:α} (h:p):(bif decide p then a else b)=a:=by simp [h]
theorem Qc {α:Type} {p:Prop} [Decidable p] {a b:α} (h:¬p):(bif decide p then a else b)=b:=by simp [h]
abbrev Qc8 {α:Type} (l:List α):Prop:=l.length<=1000000000
theorem Qat {B:Nat} {l:J0} {n:Nat} (h:n<l.length):valB B (l.take (n+1))=valB B (l.take n)+(B^n:Nat)*l[n]:=by
 rw [List.take_succ_eq_append_getElem h,Qim,Z14,Nat.min_eq_left (by omega)]
 simp [valB]
theorem Yi {l:J0} {n:Nat} (h:n<l.length):l.getD n 0=l[n]:=by simp [List.getD,h]
theorem Qq2 {B:Nat} (hB:2<=B) {l:J0} (hl:inB B l) (hs:Qc8 l):z98.F l=some (toB B (valB B l).toNat):=by
 have key:∀n:Nat,n<=l.length->∃m:Nat,m<=n/\Runs (λrec x=>z98.l0P l rec some x) (n:Int) (m:Int)/\valB B (l.take m)=valB B (l.take n)/\(m=0\/l.getD (m-1) 0≠0):=by
  intro n
  induction n with
  |zero=>exact λ_=>⟨0,Z5 0,.done λrec=>by simp [z98.l0P],rfl,.inl rfl⟩
  |
   succ n ih=>
   intro hn
   have hs':l.length<=1000000000:=hs
   have e:wr .i64 (((n+1:Nat):Int)-1)=(n:Int):=by rw [Qj]<;>omega
   have e0:((n+1:Nat):Int)>0:=by omega
   have e1:(0:Int)<=(n:Int)/\(n:Int)<(l.length:Int):=by omega
   by_cases hz:l.getD n 0=0
   ·obtain ⟨m,h1,h2,h3,h4⟩:=ih (by omega)
    refine ⟨m,by omega,.step (λrec=>?_) h2,?_,h4⟩
    ·unfold z98.l0P
     rw [bif_t e0,e,if_pos e1,Zi,bif_t hz]
    ·rw [h3,Qat (show n<l.length by omega),<-Yi,hz];simp
   ·refine ⟨n+1,Z5 _,.done λrec=>?_,rfl,.inr (by simpa using hz)⟩
    unfold z98.l0P
    rw [bif_t e0,e,if_pos e1,Zi,Qc hz]
 obtain ⟨m,h1,h2,h3,h4⟩:=key l.length (Z5 _)
 unfold z98.F z98.l0
 rw [h2.lfp]
 simp only [Zb]
 rw [if_pos (by omega),Zi]
 rw [List.take_length] at h3
 rw [<-h3]
 congr 1
 apply Qja hB (λx hx=>hl x (Z59 hx))
 intro hne
 rcases h4 with rfl|h4
 ·simp at hne
 ·rw [List.getLast_eq_getElem]
  have hm:0<m:=by
   rcases Z13 m with h0|h0
   ·subst h0;simp at hne
   ·exact h0
  rw [Yi (by omega)] at h4
  simp only [Z14,List.getElem_take]
  have:min m l.length-1=m-1:=by omega
  simp only [this]
  exact h4
def ch (d:Int):UInt8:=UInt8.ofNat (48+d.toNat)
def txt (n:Nat):J1:=if n=0 then [48] else (toB 10 n).reverse.map ch
theorem b10:2<=10:=by decide
theorem Qef {d:Int} (h0:0<=d) (h:d<10):(ch d).toNat=48+d.toNat:=by
 unfold ch;rw [UInt8.toNat_ofNat'];omega
theorem Qbw {B:Nat}:∀{l:J0} {j:Nat} {x:Int},j<l.length->valB B (l.set j x)=valB B l+(x-l.getD j 0)*(B^j:Nat)
 |y::l,0,x,_=>by simp [valB];omega
 |
  y::l,j+1,x,h=>by
  have:=Qbw (B:=B) (l:=l) (j:=j) (x:=x) (by simpa using h)
  rw [List.set_cons_succ,valB,valB,this,Z64,Z45,Z44 (B^j) B,Z37,Int.mul_add,Int.add_assoc]
  congr 2
  rw [Int.mul_left_comm]
theorem Qbg {B:Nat} {l:J0} {j:Nat} {x:Int} (h:inB B l) (hx:0<=x/\x<B):inB B (l.set j x):=λy hy=>by
 rcases List.mem_or_eq_of_mem_set hy with h1|rfl
 ·exact h y h1
 ·exact hx
theorem J6 {B:Nat}:∀(l:J0) (k:Nat),valB B (l.drop k)=l.getD k 0+B*valB B (l.drop (k+1))
 |[],k=>by simp [valB]
 |x::l,0=>by simp [valB]
 |x::l,k+1=>by rw [List.drop_succ_cons,List.drop_succ_cons,Z64];exact J6 l k
theorem Y9 {B:Nat} (hB:0<B) {l:J0} (h:inB B l) (k:Nat):0<=l.getD k 0/\l.getD k 0<B:=by
 by_cases hk:k<l.length
 ·rw [Yi hk];exact h _ (Z10 hk)
 ·simp [List.getD,Z12 (show l.length<=k by omega)];omega
theorem Qj3 {B:Nat} {l:J0} (h:inB B l) (k:Nat):inB B (l.take k):=λx hx=>h x (Z59 hx)
theorem Qdt (B:Nat):∀n:Nat,valB B (List.replicate n (0:Int))=0
 |0=>rfl
 |n+1=>by rw [List.replicate_succ,valB,Qdt B n];simp
theorem Qb7 {B:Nat} (hB:0<B) (n:Nat):inB B (List.replicate n (0:Int)):=λx hx=>by
 rw [List.mem_replicate] at hx;rw [hx.2];omega
def cmpI (m n:Int):Int:=if m<n then -1 else if m=n then 0 else 1
theorem Qrs {B:Nat} (hB:2<=B) {l:J0} (h:inB B l) {k:Nat} (hk:k<=l.length):valB B (l.take k)<(B^k:Nat):=by
 have:=Qdh hB (Qj3 h k)
 rwa [Z14,Nat.min_eq_left hk] at this
theorem Qhn {B:Nat} (hB:2<=B) {a b:J0} (ha:inB B a) (hb:inB B b) {k:Nat} (hka:k<a.length) (hkb:k<b.length) :
  (a[k]<b[k]->valB B (a.take (k+1))<valB B (b.take (k+1)))/\(a[k]=b[k]->(valB B (a.take (k+1))-valB B (b.take (k+1))=valB B (a.take k)-valB B (b.take k))):=by
 rw [Qat hka,Qat hkb]
 have h1:=Qrs hB ha (k:=k) (by omega)
 have h2:=Qda (Qj3 hb k)
 refine ⟨λh=>?_,λh=>by rw [h];omega⟩
 have h3:((B^k:Nat):Int)*(a[k]+1)<=(B^k:Nat)*b[k]:=Int.mul_le_mul_of_nonneg_left (by omega) (by omega)
 rw [Int.mul_add,Int.mul_one] at h3
 omega
theorem Qen {B m n:Nat} (hB:2<=B) (h:(toB B m).length<(toB B n).length):m<n:=by
 have h1:=Qf3 (n:=m) hB
 have hn:0<n:=by
  rcases Z13 n with rfl|h0
  ·rw [toB_zero] at h;simp at h
  ·exact h0
 have h2:=Qrr hB hn
 have h3:B^(toB B m).length<=B^((toB B n).length-1):=Z60 (by omega) (by omega)
 omega
def tv:Int->J1->Int
 |acc,[]=>acc
 |acc,b::s=>tv (10*acc+(b.toNat:Int)-48) s
def digit (b:UInt8):Prop:=48<=b.toNat/\b.toNat<=57
def Qx (s:J1):Prop:=∀b∈s,digit b
theorem Qe1:∀(s t:J1) (a:Int),tv a (s++t)=tv (tv a s) t
 |[],_,_=>rfl
 |b::s,t,a=>Qe1 s t _
theorem Qdp:∀(s:J1) (a:Int),tv a s=a*(10^s.length:Nat)+tv 0 s
 |[],a=>by simp [tv]
 |
  b::s,a=>by
  have h1:=Qdp s (10*a+(b.toNat:Int)-48)
  have h2:=Qdp s (10*0+(b.toNat:Int)-48)
  show tv (10*a+(b.toNat:Int)-48) s=a*_+tv (10*0+(b.toNat:Int)-48) s
  rw [h1,h2,Z6,Z45,Z37]
  generalize ((10^s.length:Nat):Int)=p
  grind
theorem Jr:∀{s:J1},Qx s->0<=tv 0 s/\tv 0 s<(10^s.length:Nat)
 |[],_=>by simp [tv]
 |
  b::s,h=>by
  have hb:=h b (by simp)
  have ih:=Jr (s:=s) λx hx=>h x (by simp [hx])
  have e:tv 0 (b::s)=((b.toNat:Int)-48)*(10^s.length:Nat)+tv 0 s:=by
   show tv (10*0+(b.toNat:Int)-48) s=_
   rw [Qdp];simp
  have hp:(0:Int)<=(10^s.length:Nat):=Int.natCast_nonneg _
  unfold digit at hb
  have h1:0<=((b.toNat:Int)-48)*(10^s.length:Nat):=Z69 (by omega) hp
  have h2:((b.toNat:Int)-48)*(10^s.length:Nat)<=9*(10^s.length:Nat):=Int.mul_le_mul_of_nonneg_right (by omega) hp
  rw [e,Z6,Z45,Z37]
  omega
theorem Qj2:∀{l:J0},inB 10 l->tv 0 (l.reverse.map ch)=valB 10 l
 |[],_=>rfl
 |
  x::l,h=>by
  rw [Jk] at h
  rw [List.reverse_cons,List.map_append,Qe1,Qj2 h.2]
  show 10*valB 10 l+((ch x).toNat:Int)-48=x+10*valB 10 l
  rw [Qef h.1.1 h.1.2];omega
theorem J5 (n:Nat):Qx (txt n):=by
 unfold txt
 split
 ·intro b hb;simp at hb;subst hb;unfold digit;decide
 ·intro b hb
  rw [List.mem_map] at hb
  obtain ⟨d,hd,rfl⟩:=hb
  have:=Wo b10 n d (List.mem_reverse.1 hd)
  unfold digit
  rw [Qef this.1 this.2];omega
theorem Qjc (n:Nat):tv 0 (txt n)=n:=by
 unfold txt
 split
 ·rename_i h;subst h;decide
 ·rw [Qj2 (Wo b10 n),Ye b10]
theorem Qo0 (n:Nat):txt n≠[]:=by
 unfold txt
 split
 ·simp
 ·rename_i h
  simp only [ne_eq,List.map_eq_nil_iff,List.reverse_eq_nil_iff]
  exact λe=>h ((toB_nil b10).1 e)
theorem Qla {n:Nat} (hn:n≠0):∃b s,txt n=b::s/\b.toNat≠48:=by
 have h:=Ql9 b10 n (λe=>hn ((toB_nil b10).1 e))
 have hne:toB 10 n≠[]:=λe=>hn ((toB_nil b10).1 e)
 have hin:=Wo b10 n _ (List.getLast_mem hne)
 refine ⟨ch ((toB 10 n).getLast hne),((toB 10 n).dropLast.reverse.map ch),?_,?_⟩
 ·unfold txt
  rw [if_neg hn]
  conv=>lhs;rw [<-List.dropLast_concat_getLast hne]
  rw [List.reverse_append];rfl
 ·rw [Qef hin.1 hin.2];omega
theorem Qau {n k:Nat} (h:n<10^k) (hk:0<k):(txt n).length<=k:=by
 unfold txt
 split
 ·show 1<=k;omega
 ·rw [Z33,List.length_reverse];exact Jn b10 h
abbrev neg (z:Int):Bool:=decide (z<0)
theorem Qsg (x y:Int):cmpI (x-y) 0=cmpI x y:=by
 unfold cmpI;split<;>split<;>(try split)<;>(try split)<;>first|rfl|omega
abbrev LB:Nat:=18446744073709551616
abbrev lb (n:Nat):J0:=toB LB n
theorem bL:2<=LB:=by decide
theorem Qoh (n:Nat):(((lb n).length:Nat):Int)=0↔n=0:=by
 constructor
 ·intro h;exact (toB_nil bL).1 (List.length_eq_zero_iff.1 (Int.ofNat_eq_zero.1 h))
 ·rintro rfl;simp [lb,toB_zero]
theorem Wq (n:Nat):z8.F (lb n)=some (decide (n=0)):=by
 unfold z8.F;congr 1;exact decide_eq_decide.2 (Qoh n)
theorem Qlj {l:J0} {i:Nat}:z34.F l (i:Int)=some (l.getD i 0):=by
 unfold z34.F
 by_cases h:(i:Int)>=(l.length:Int)
 ·rw [bif_t h]
  have:l.getD i 0=0:=by simp [List.getD,Z12 (show l.length<=i by omega)]
  rw [this]
 ·rw [Qc h,if_pos (by omega),Zi]
theorem Qcy {l:J0} (hl:inB LB l) (hs:Qc8 l):z14.F l=some (lb (valB LB l).toNat):=by
 have h:=Qq2 bL hl hs
 unfold z98.F at h
 unfold z14.F
 have e:z14.l0 l=z98.l0 l:=rfl
 rw [e]
 revert h
 cases z98.l0 l ((l.length:Nat):Int) with
 |none=>exact id
 |
  some o=>
  simp only [Zb]
  intro h
  split at h
  ·rename_i hc
   rw [if_pos ⟨hc.1,Int.le_refl _,hc.2⟩];exact h
  ·simp at h
theorem Qbt (x y:Int):z10.F x y=some (cmpI x y):=by
 unfold z10.F z9.F cmpI
 simp only [Zb,decide_true,Zn,Zc]
 by_cases h:x<y
 ·rw [bif_t h,if_pos h]
 ·rw [Qc h,if_neg h]
  by_cases h':x>y
  ·rw [bif_t h',if_neg (by omega)]
  ·rw [Qc h',if_pos (by omega)]
theorem Qhp (x y:Int):z12.F x y=some (cmpI x y):=Qbt x y
theorem Qj9 {a b:J0} (ha:inB LB a) (hb:inB LB b) (hl:a.length=b.length) (hal:a.length<=900000000):∀k:Nat,k<=a.length ->
  ∃o:Int⊕Int,Runs (λrec x=>z13.l0P a b rec some x) ((k:Int)-1) o/\(match o with | .inl _=>(0:Int) | .inr q=>q)=cmpI (valB LB (a.take k)) (valB LB (b.take k))
 |0,_=>⟨.inl (-1),.done λrec=>by unfold z13.l0P;rw [Qc (by omega)];rfl,by simp [cmpI,valB]⟩
 |
  k+1,hk=>by
  have hka:k<a.length:=by omega
  have hkb:k<b.length:=by omega
  have e0:((k+1:Nat):Int)-1=(k:Int):=by omega
  obtain ⟨p1,p2⟩:=Qhn bL ha hb hka hkb
  obtain ⟨p3,_⟩:=Qhn bL hb ha hkb hka
  have c1:(0:Int)<=(k:Int)/\(k:Int)<(a.length:Int):=by omega
  have c2:(0:Int)<=(k:Int)/\(k:Int)<(b.length:Int):=by omega
  rw [e0]
  by_cases h:a[k]=b[k]
  ·obtain ⟨o,r1,r2⟩:=Qj9 ha hb hl hal k (by omega)
   refine ⟨o,.step (λrec=>?_) r1,?_⟩
   ·unfold z13.l0P
    rw [bif_t (by omega),Zi,Yi hka,Yi hkb,if_pos c1,if_pos c2,Qhp]
    simp only [Zb]
    have:cmpI a[k] b[k]=0:=by unfold cmpI;rw [if_neg (by omega),if_pos h]
    rw [this,Qj (by omega) (by omega)]
    rfl
   ·rw [r2]
    have:=p2 h
    unfold cmpI
    split<;>split<;>(try split)<;>(try split)<;>first|rfl|omega
  ·refine ⟨.inr (cmpI a[k] b[k]),.done λrec=>?_,?_⟩
   ·unfold z13.l0P
    rw [bif_t (by omega),Zi,Yi hka,Yi hkb,if_pos c1,if_pos c2,Qhp]
    simp only [Zb]
    have:¬cmpI a[k] b[k]=0:=by unfold cmpI;split<;>(try split)<;>omega
    rw [Zf this]
    rfl
   ·rcases Int.lt_or_gt_of_ne h with h'|h'
    ·have:=p1 h'
     unfold cmpI;rw [if_pos h',if_pos this]
    ·have:=p3 h'
     unfold cmpI;rw [if_neg (by omega),if_neg (by omega),if_neg (by omega),if_neg (by omega)]
theorem Qdg {m n:Nat} (hl:(lb m).length<=900000000):z13.F (lb m) (lb n)=some (cmpI m n):=by
 unfold z13.F
 rw [Qbt]
 simp only [Zb]
 by_cases he:(lb m).length=(lb n).length
 ·have e1:cmpI ((lb m).length:Int) ((lb n).length:Int)=0:=by unfold cmpI;rw [if_neg (by omega),if_pos (by omega)]
  rw [e1]
  simp only [decide_true,Zn,Zc]
  obtain ⟨o,r1,r2⟩:=Qj9 (a:=lb m) (b:=lb n) (Wo bL m) (Wo bL n) he hl (lb m).length (Z5 _)
  rw [Qj (by omega) (by omega)]
  unfold z13.l0
  rw [r1.lfp]
  simp only [Zb]
  rw [List.take_length,he,List.take_length,Ye bL,Ye bL] at r2
  rw [<-r2]
  cases o<;>rfl
 ·rcases Nat.lt_or_gt_of_ne he with h|h
  ·have:=Qen bL h
   have e1:cmpI ((lb m).length:Int) ((lb n).length:Int) = -1:=by unfold cmpI;rw [if_pos (by omega)]
   have e2:cmpI (m:Int) n = -1:=by unfold cmpI;rw [if_pos (by omega)]
   rw [e1,e2];rfl
  ·have:=Qen bL h
   have e1:cmpI ((lb m).length:Int) ((lb n).length:Int)=1:=by unfold cmpI;rw [if_neg (by omega),if_neg (by omega)]
   have e2:cmpI (m:Int) n=1:=by unfold cmpI;rw [if_neg (by omega),if_neg (by omega)]
   rw [e1,e2];rfl
theorem Qgh (a:Int) (h0:0<=a):wr .u64 ((BitVec.ofInt (IntKind.bits .u64) a &&& BitVec.ofInt (IntKind.bits .u64) (4294967295:Int)).toNat:Int)=a%4294967296:=by
 have e:(BitVec.ofInt (IntKind.bits .u64) a &&& BitVec.ofInt (IntKind.bits .u64) (4294967295:Int)).toNat=(a%4294967296).toNat:=by
  rw [BitVec.toNat_and]
  have e1:(BitVec.ofInt (IntKind.bits .u64) (4294967295:Int)).toNat=2^32-1:=rfl
  have e2:(BitVec.ofInt (IntKind.bits .u64) a).toNat=(a%18446744073709551616).toNat:=by
   rw [BitVec.toNat_ofInt];rfl
  rw [e1,Nat.and_two_pow_sub_one_eq_mod,e2]
  omega
 rw [e,Qn (by omega) (by omega)];omega
theorem Qrk (a:Int):Int.fdiv a (2^(min 32 (64:Nat)))=a/4294967296:=by
 rw [Int.fdiv_eq_ediv_of_nonneg _ (by decide)];rfl
theorem Qpm {a b:Int} (ha:0<=a/\a<18446744073709551616) (hb:0<=b/\b<18446744073709551616):z21.F a b=some (a*b/18446744073709551616,a*b%18446744073709551616):=by
 unfold z21.F
 simp only [Qrk]
 rw [Qgh a ha.1,Qgh b hb.1]
 generalize hx1:a/4294967296=x1
 generalize hx0:a%4294967296=x0
 generalize hy1:b/4294967296=y1
 generalize hy0:b%4294967296=y0
 have ea:a=4294967296*x1+x0:=by omega
 have eb:b=4294967296*y1+y0:=by omega
 have bx1:0<=x1/\x1<=4294967295:=by omega
 have bx0:0<=x0/\x0<=4294967295:=by omega
 have by1:0<=y1/\y1<=4294967295:=by omega
 have by0:0<=y0/\y0<=4294967295:=by omega
 have m00:0<=x0*y0/\x0*y0<=4294967295*4294967295:=⟨Z69 bx0.1 by0.1,Int.mul_le_mul bx0.2 by0.2 by0.1 (by decide)⟩
 have m10:0<=x1*y0/\x1*y0<=4294967295*4294967295:=⟨Z69 bx1.1 by0.1,Int.mul_le_mul bx1.2 by0.2 by0.1 (by decide)⟩
 have m01:0<=x0*y1/\x0*y1<=4294967295*4294967295:=⟨Z69 bx0.1 by1.1,Int.mul_le_mul bx0.2 by1.2 by1.1 (by decide)⟩
 have m11:0<=x1*y1/\x1*y1<=4294967295*4294967295:=⟨Z69 bx1.1 by1.1,Int.mul_le_mul bx1.2 by1.2 by1.1 (by decide)⟩
 have eab:a*b=18446744073709551616*(x1*y1)+4294967296*(x1*y0)+4294967296*(x0*y1)+x0*y0:=by rw [ea,eb];grind
 rw [eab]
 generalize x0*y0=p00 at *
 generalize x1*y0=p10 at *
 generalize x0*y1=p01 at *
 generalize x1*y1=p11 at *
 rw [Qn (n:=p00) (by omega) (by omega),Qn (n:=p10) (by omega) (by omega),Qn (n:=p01) (by omega) (by omega),Qn (n:=p11) (by omega) (by omega)]
 rw [Qn (n:=p10+p00/4294967296) (by omega) (by omega)]
 rw [Qgh _ (by omega)]
 rw [Qn (n:=p11+(p10+p00/4294967296)/4294967296) (by omega) (by omega)]
 rw [Qn (n:=(p10+p00/4294967296)%4294967296+p01) (by omega) (by omega)]
 rw [Qn (n:=p11+(p10+p00/4294967296)/4294967296+((p10+p00/4294967296)%4294967296+p01)/4294967296) (by omega) (by omega)]
 rw [Wu]
 congr 2;omega
theorem Qd8 {x y c:Int} (hx:0<=x) (hy:0<=y) (hc:0<=c/\c<=1):z0.F x y c=some ((x+y+c)%18446744073709551616,(x+y+c)/18446744073709551616):=by
 unfold z0.F;rw [if_pos (by omega)]
theorem Qcw {s:J0} {i j:Nat} {x:Int} (h:i≠j):(s.set i x).getD j 0=s.getD j 0:=by
 simp [List.getD,List.getElem?_set_ne h]
theorem Qfv (n j:Nat):(List.replicate n (0:Int)).getD j 0=0:=by
 simp only [List.getD,List.getElem?_replicate];split<;>rfl
theorem Qg9 {a b:J0} {n:Nat} (ha:inB LB a) (hb:inB LB b) (hn:n<=900000000) (han:a.length<n) (hbn:b.length<n) :
  ∀
   (f i:Nat) (c:Int) (s:J0),i+f=n->s.length=n->inB LB s->(∀j,i<=j->s.getD j 0=0)->0<=c/\c<=1 ->
   valB LB s+(c+valB LB (a.drop i)+valB LB (b.drop i))*(LB^i:Nat)=valB LB a+valB LB b ->
   ∃c' s',Runs (λrec x=>z35.l0P (n:Int) a b rec some x) (c,(i:Int),s) (c',(n:Int),s')/\inB LB s'/\s'.length=n/\(0<=c'/\c'<=1)/\valB LB s'+c'*(LB^n:Nat)=valB LB a+valB LB b
 |
  0,i,c,s,hf,hl,hs,hz,hc,hv=>by
  have:i=n:=by omega
  subst this
  refine ⟨c,s,.done λrec=>?_,hs,hl,hc,?_⟩
  ·unfold z35.l0P
   simp only
   rw [Qc (by omega)]
  ·rw [Z63 (by omega),Z63 (by omega)] at hv
   simpa [valB] using hv
 |
  f+1,i,c,s,hf,hl,hs,hz,hc,hv=>by
  have hLB:((LB:Nat):Int)=18446744073709551616:=rfl
  have h1:=Y9 (B:=LB) (by decide) ha i
  have h2:=Y9 (B:=LB) (by decide) hb i
  have hi:i<s.length:=by omega
  obtain ⟨c',s',r1,r2,r3,r4,r5⟩:=Qg9 ha hb hn han hbn f (i+1) ((a.getD i 0+b.getD i 0+c)/18446744073709551616) (s.set i ((a.getD i 0+b.getD i 0+c)%18446744073709551616)) (by omega) (by simp [hl]) (Qbg hs (by omega))
   (λj hj=>by rw [Qcw (by omega)];exact hz j (by omega)) (by omega) (by
    rw [Qbw hi,hz i (Z5 _),<-hv,J6 a i,J6 b i,Z45,Z44 (LB^i) LB,Z37]
    generalize hx:a.getD i 0+b.getD i 0+c=x
    have e2:x=18446744073709551616*(x/18446744073709551616)+x%18446744073709551616:=(Int.mul_ediv_add_emod x _).symm
    have e3:((LB:Nat):Int)=18446744073709551616:=rfl
    rw [e3]
    generalize x/18446744073709551616=q at *
    generalize x%18446744073709551616=m at *
    subst e2
    generalize ((LB^i:Nat):Int)=p
    generalize valB LB (a.drop (i+1))=w
    generalize valB LB (b.drop (i+1))=w'
    generalize a.getD i 0=u at *
    generalize b.getD i 0=v at *
    have hc':c=18446744073709551616*q+m-u-v:=by omega
    subst hc'
    grind)
  refine ⟨c',s',.step (λrec=>?_) r1,r2,r3,r4,r5⟩
  unfold z35.l0P
  simp only [Qlj,Zb]
  rw [bif_t (by omega),Qd8 h1.1 h2.1 hc]
  simp only [Zb]
  rw [if_pos (by omega),Zi,if_pos hi,Qj (by omega) (by omega)]
  rfl
theorem Qld {n k:Nat} (h:(lb n).length<=k):n<LB^k:=Z11 (Qf3 bL) (Z60 (by decide) h)
theorem Qft {m n:Nat} (hl:(lb m).length+(lb n).length<=800000000):z35.F (lb m) (lb n)=some (lb (m+n)):=by
 unfold z35.F
 generalize hk:max (lb m).length (lb n).length=k
 have e0:(if (((lb n).length:Nat):Int)>(((lb m).length:Nat):Int) then (((lb n).length:Nat):Int) else (((lb m).length:Nat):Int))=(k:Int):=by split<;>omega
 have e1:wr .i64 ((k:Int)+1)=((k+1:Nat):Int):=by rw [Qj (by omega) (by omega)];omega
 rw [e0,e1,if_pos (by omega),Zi,List.length_replicate]
 obtain ⟨c',s',r1,r2,r3,r4,r5⟩:=Qg9 (a:=lb m) (b:=lb n) (n:=k+1) (Wo bL m) (Wo bL n) (by omega) (by omega) (by omega) (k+1) 0 0 (List.replicate (k+1) 0) (by omega) (by simp) (Qb7 (by decide) _)
  (λj _=>Qfv _ j) (by omega) (by rw [Qdt];simp)
 have e:z35.l0 ((k+1:Nat):Int) (lb m) (lb n) ((0:Int),(0:Int),List.replicate (k+1) 0)=some (c',((k+1:Nat):Int),s'):=r1.lfp
 rw [e]
 simp only [Zb]
 rw [Ye bL,Ye bL] at r5
 have hm:m<LB^k:=Qld (by omega)
 have hn:n<LB^k:=Qld (by omega)
 have hc:c'=0:=by
  rcases (show c'=0\/c'=1 by omega) with h|h
  ·exact h
  ·exfalso
   subst h
   have:=Qda r2
   have e3:((LB^(k+1):Nat):Int)=(LB^k:Nat)*18446744073709551616:=by rw [Z45,Z37];rfl
   rw [e3] at r5
   omega
 subst hc
 rw [Qcy r2 (by show List.length _<=_;omega)]
 simp only [Zb]
 congr 2;omega
theorem Qjm {a b:J0} (ha:inB LB a) (hb:inB LB b) (hal:a.length<=900000000) :
  ∀
   (f i:Nat) (c:Int) (s:J0),i+f=a.length->s.length=a.length->inB LB s->(∀j,i<=j->s.getD j 0=0)->0<=c/\c<=1 ->
   valB LB s-c*(LB^i:Nat)=valB LB (a.take i)-valB LB (b.take i) ->
   ∃c' s',Runs (λrec x=>z39.l0P (a.length:Int) a b rec some x) (c,(i:Int),s) (c',(a.length:Int),s')/\inB LB s'/\s'.length=a.length/\(0<=c'/\c'<=1)/\valB LB s'-c'*(LB^a.length:Nat)=valB LB a-valB LB (b.take a.length)
 |
  0,i,c,s,hf,hl,hs,hz,hc,hv=>by
  have:i=a.length:=by omega
  subst this
  refine ⟨c,s,.done λrec=>?_,hs,hl,hc,by rwa [List.take_length] at hv⟩
  unfold z39.l0P
  simp only
  rw [Qc (by omega)]
 |
  f+1,i,c,s,hf,hl,hs,hz,hc,hv=>by
  have hi:i<a.length:=by omega
  have his:i<s.length:=by omega
  have hLB:((LB:Nat):Int)=18446744073709551616:=rfl
  have h1:=Y9 (B:=LB) (by decide) ha i
  have h2:=Y9 (B:=LB) (by decide) hb i
  have eb:valB LB (b.take (i+1))=valB LB (b.take i)+(LB^i:Nat)*b.getD i 0:=by
   by_cases hb':i<b.length
   ·rw [Qat hb',Yi hb']
   ·rw [Z27 (by omega),Z27 (by omega)]
    simp [List.getD,Z12 (show b.length<=i by omega)]
  have hsub:z1.F (a.getD i 0) (b.getD i 0) c=some ((a.getD i 0-b.getD i 0-c)%18446744073709551616,if a.getD i 0<b.getD i 0+c then 1 else 0):=by
   unfold z1.F;rw [if_pos (by omega)]
  obtain ⟨c',s',r1,r2,r3,r4,r5⟩:=Qjm ha hb hal f (i+1) (if a.getD i 0<b.getD i 0+c then 1 else 0) (s.set i ((a.getD i 0-b.getD i 0-c)%18446744073709551616)) (by omega) (by simp [hl]) (Qbg hs (by omega))
   (λj hj=>by rw [Qcw (by omega)];exact hz j (by omega)) (by split<;>omega) (by
    rw [Qbw his,hz i (Z5 _),Qat hi,eb,Z45,Z44 (LB^i) LB,Z37,<-Yi hi]
    have e3:((LB:Nat):Int)=18446744073709551616:=rfl
    rw [e3]
    have e4:(a.getD i 0-b.getD i 0-c)%18446744073709551616=a.getD i 0-b.getD i 0-c+(if a.getD i 0<b.getD i 0+c then 1 else 0)*18446744073709551616:=by split<;>omega
    rw [e4]
    generalize (if a.getD i 0<b.getD i 0+c then (1:Int) else 0)=q
    generalize ((LB^i:Nat):Int)=p at *
    grind)
  refine ⟨c',s',.step (λrec=>?_) r1,r2,r3,r4,r5⟩
  unfold z39.l0P
  simp only [Qlj,Zb]
  rw [bif_t (by omega),if_pos (by omega),Zi,hsub]
  simp only [Zb]
  rw [if_pos (by omega),if_pos his,Qj (by omega) (by omega)]
  rfl
theorem Qd4 {m n:Nat} (hl:(lb m).length<=800000000):z39.F (lb m) (lb n)=some (if n<=m then (lb (m-n),true) else ([],false)):=by
 unfold z39.F
 rw [Qdg (by omega)]
 simp only [Zb]
 by_cases h:n<=m
 ·have h0:¬cmpI (m:Int) n<0:=by unfold cmpI;split<;>(try split)<;>omega
  rw [Qc h0,if_pos h,if_pos (by omega),Zi,List.length_replicate]
  obtain ⟨c',s',r1,r2,r3,r4,r5⟩:=Qjm (a:=lb m) (b:=lb n) (Wo bL m) (Wo bL n) (by omega) (lb m).length 0 0 (List.replicate (lb m).length 0) (by omega) (by simp) (Qb7 (by decide) _)
   (λj _=>Qfv _ j) (by omega) (by rw [Qdt];simp [valB])
  have hlen:(lb n).length<=(lb m).length:=by
   rcases Z53 (lb m).length (lb n).length with h'|h'
   ·have:=Qen bL h';omega
   ·exact h'
  rw [Z27 hlen,Ye bL,Ye bL] at r5
  have h1:=Qdh bL r2
  rw [r3] at h1
  have hc:c'=0:=by
   rcases (show c'=0\/c'=1 by omega) with h|h
   ·exact h
   ·subst h;omega
  subst hc
  have e:z39.l0 ((lb m).length:Int) (lb m) (lb n) ((0:Int),(0:Int),List.replicate (lb m).length 0)=some ((0:Int),((lb m).length:Int),s'):=r1.lfp
  rw [e]
  simp only [Zb]
  rw [Qcy r2 (by show List.length _<=_;omega)]
  simp only [Zb]
  congr 3;omega
 ·have h0:cmpI (m:Int) n<0:=by unfold cmpI;rw [if_pos (by omega)];decide
  rw [bif_t h0,if_neg h]
theorem Qhy {l:J0} (hl:inB LB l) (hs:Qc8 l):z15.F l=some (lb (valB LB l).toNat):=by
 have hs':l.length<=1000000000:=hs
 unfold z15.F
 rw [if_pos (by omega),Qcy hl hs];rfl
theorem W0 {x:Int} (h:0<=x/\x<18446744073709551616):z15.F [x]=some (lb x.toNat):=by
 rw [Qhy (Jk.2 ⟨h,Qep _⟩) (by show [x].length<=_;simp)]
 simp [valB]
theorem Qbc {l:J0} (hs:Qc8 l):z16.F l=some l:=by
 have hs':l.length<=1000000000:=hs
 unfold z16.F
 rw [if_pos (by omega)]
theorem Qkz {x:Int} {a:J0} {off tot:Nat} (hx:0<=x/\x<18446744073709551616) (ha:inB LB a) (ht:tot<=1800000000) (hot:off+a.length<tot) :
  ∀
   (f i:Nat) (c:Int) (s:J0),i+f=a.length->s.length=tot->inB LB s->0<=c/\c<18446744073709551616 ->
   ∃
    c' s',Runs (λrec y=>z36.l0aP x off (tot-off) a (a.length:Int) rec some y) (c,(i:Int),s) (c',(a.length:Int),s')/\inB LB s'/\s'.length=tot/\(0<=c'/\c'<18446744073709551616) /\
    (∀j,off+a.length<=j->s'.getD j 0=s.getD j 0)/\valB LB s'+c'*(LB^(off+a.length):Nat)=valB LB s+(c+x*valB LB (a.drop i))*(LB^(off+i):Nat)
 |
  0,i,c,s,hf,hl,hs,hc=>by
  have:i=a.length:=by omega
  subst this
  refine ⟨c,s,.done λrec=>?_,hs,hl,hc,λj _=>rfl,?_⟩
  ·unfold z36.l0aP
   simp only
   rw [Qc (by omega)]
  ·rw [Z63 (Z5 _)];simp [valB]
 |
  f+1,i,c,s,hf,hl,hs,hc=>by
  have hi:i<a.length:=by omega
  have his:off+i<s.length:=by omega
  have h1:=Y9 (B:=LB) (by decide) ha i
  have h2:=Y9 (B:=LB) (by decide) hs (off+i)
  have h1':0<=a.getD i 0/\a.getD i 0<18446744073709551616:=h1
  have h2':0<=s.getD (off+i) 0/\s.getD (off+i) 0<18446744073709551616:=h2
  have hp:0<=x*a.getD i 0/\x*a.getD i 0<=18446744073709551615*18446744073709551615:=⟨Z69 hx.1 h1'.1,Int.mul_le_mul (by omega) (by omega) h1'.1 (by decide)⟩
  obtain ⟨c',s',r1,r2,r3,r4,r5,r6⟩:=Qkz hx ha ht hot f (i+1) ((x*a.getD i 0+c+s.getD (off+i) 0)/18446744073709551616) (s.set (off+i) ((x*a.getD i 0+c+s.getD (off+i) 0)%18446744073709551616))
   (by omega) (by simp [hl]) (Qbg hs (by show 0<=_/\_<(18446744073709551616:Int);omega)) (by omega)
  refine ⟨c',s',.step (λrec=>?_) r1,r2,r3,r4,λj hj=>?_,?_⟩
  ·unfold z36.l0aP
   simp only
   rw [bif_t (by omega),if_pos (by omega),Zi,Qpm hx h1']
   simp only [Zb]
   rw [Qd8 (by omega) hc.1 (by omega)]
   simp only [Zb]
   rw [if_pos (by omega),if_pos his,Qd8 h2'.1 (by omega) (by omega)]
   simp only [Zb]
   rw [if_pos (by omega),if_pos his]
   generalize x*a.getD i 0=p at hp ⊢
   generalize s.getD (off+i) 0=u at h2' ⊢
   rw [Qn (n:=p/18446744073709551616+_) (by omega) (by omega),Qn (by omega) (by omega),Qj (by omega) (by omega)]
   congr 2
   ·omega
   ·congr 2;omega
  ·rw [r5 j hj,Qcw (by omega)]
  ·rw [r6,Qbw his,J6 a i]
   have e1:((LB^(off+(i+1)):Nat):Int)=18446744073709551616*(LB^(off+i):Nat):=by
    rw [<-Z32,Z45,Z44,Z37];rfl
   rw [e1]
   have e3:((LB:Nat):Int)=18446744073709551616:=rfl
   rw [e3]
   generalize hy:x*a.getD i 0+c+s.getD (off+i) 0=y
   have e2:y=18446744073709551616*(y/18446744073709551616)+y%18446744073709551616:=(Int.mul_ediv_add_emod y _).symm
   generalize y/18446744073709551616=q at *
   generalize y%18446744073709551616=m at *
   generalize ((LB^(off+i):Nat):Int)=p
   generalize valB LB (a.drop (i+1))=w
   generalize valB LB s=z
   generalize s.getD (off+i) 0=u at *
   generalize a.getD i 0=v at *
   have hc':c=18446744073709551616*q+m-u-x*v:=by omega
   subst hc'
   grind
theorem Qjq {a b:J0} {tot:Nat} (ha:inB LB a) (hb:inB LB b) (ht:tot<=1800000000) (hab:tot=a.length+b.length+1) :
  ∀
   (f i:Nat) (s:J0),i+f=b.length->s.length=tot->inB LB s->(∀j,i+a.length<=j->s.getD j 0=0)->valB LB s=valB LB a*valB LB (b.take i) ->
   ∃s',Runs (λrec y=>z36.l0P b (b.length:Int) a rec some y) ((i:Int),s) ((b.length:Int),s')/\inB LB s'/\s'.length=tot/\valB LB s'=valB LB a*valB LB b
 |
  0,i,s,hf,hl,hs,hz,hv=>by
  have:i=b.length:=by omega
  subst this
  refine ⟨s,.done λrec=>?_,hs,hl,by rwa [List.take_length] at hv⟩
  unfold z36.l0P
  simp only
  rw [Qc (by omega)]
 |
  f+1,i,s,hf,hl,hs,hz,hv=>by
  have hi:i<b.length:=by omega
  have hx:=Y9 (B:=LB) (by decide) hb i
  have hx':0<=b.getD i 0/\b.getD i 0<18446744073709551616:=hx
  obtain ⟨c,s1,r1,r2,r3,r4,r5,r6⟩:=Qkz (x:=b.getD i 0) (a:=a) (off:=i) (tot:=tot) hx' ha ht (by omega) a.length 0 0 s (by omega) hl hs (by omega)
  have e0:z36.l0a (b.getD i 0) i (tot-i) a (a.length:Int) ((0:Int),(0:Int),s)=some (c,(a.length:Int),s1):=r1.lfp
  have hz1:s1.getD (i+a.length) 0=0:=by rw [r5 _ (Z5 _)];exact hz _ (Z5 _)
  have hi1:i+a.length<s1.length:=by omega
  obtain ⟨s',q1,q2,q3,q4⟩:=Qjq ha hb ht hab f (i+1) (s1.set (i+a.length) c) (by omega) (by simp [r3]) (Qbg r2 r4)
   (λj hj=>by rw [Qcw (by omega),r5 j (by omega)];exact hz j (by omega)) (by
    rw [Qbw hi1,hz1,Qat hi,Int.mul_add,<-hv,<-Yi hi]
    simp only [Z76,Z73,Int.zero_add] at r6
    generalize ((LB^(i+a.length):Nat):Int)=p at *
    generalize ((LB^i:Nat):Int)=p2 at *
    grind)
  refine ⟨s',.step (λrec=>?_) q1,q2,q3,q4⟩
  unfold z36.l0P
  simp only
  rw [bif_t (by omega),if_pos (by omega),if_pos (by omega),Zi,hl,e0]
  simp only [Zb,Zi]
  rw [if_pos (by omega),if_pos hi1,if_pos (by omega),if_pos hi1,hz1,Qj (by omega) (by omega),Qn (by omega) (by omega),Int.zero_add]
  rfl
theorem Qp1 {a b:J0} (ha:inB LB a) (hb:inB LB b) (hl:a.length+b.length<=800000000):z36.F a b=some (lb (valB LB a*valB LB b).toNat):=by
 obtain ⟨s',r1,r2,r3,r4⟩:=Qjq (tot:=a.length+b.length+1) ha hb (by omega) rfl b.length 0 (List.replicate (a.length+b.length+1) 0) (by omega) (by simp) (Qb7 (by decide) _)
  (λj _=>Qfv _ j) (by rw [Qdt];simp [valB])
 have e0:z36.l0 b (b.length:Int) a ((0:Int),List.replicate (a.length+b.length+1) 0)=some ((b.length:Int),s'):=r1.lfp
 have e1:wr .i64 (wr .i64 ((a.length:Int)+(b.length:Int))+1)=((a.length+b.length+1:Nat):Int):=by
  rw [Qj (n:=(a.length:Int)+(b.length:Int)) (by omega) (by omega),Qj (by omega) (by omega)];omega
 unfold z36.F
 rw [e1,if_pos (by omega),Zi,e0]
 simp only [Zb]
 rw [Qcy r2 (by show List.length _<=_;omega),r4]
 rfl
theorem Qax {m n:Nat} (hl:(lb m).length+(lb n).length<=800000000):z36.F (lb m) (lb n)=some (lb (m*n)):=by
 rw [Qp1 (Wo bL m) (Wo bL n) hl,Ye bL,Ye bL]
 congr 2
theorem whole_Of (n:Nat) (b:Bool):z30.F (lb n) b=some (lb n,b&&decide (0<n)):=by
 unfold z30.F
 cases b
 ·rfl
 ·rw [Wq]
  simp only [Zd,Z68,Zb]
  congr 2
  by_cases h:n=0
  ·subst h;rfl
  ·rw [Zf h,Zt (by omega:0<n)];rfl
theorem whole_Of' {z:Int} {b:Bool} (h:(b=true/\z<=0)\/(b=false/\0<=z)):z30.F (lb z.natAbs) b=some (lb z.natAbs,neg z):=by
 rw [whole_Of]
 congr 2
 rcases h with ⟨rfl,h⟩|⟨rfl,h⟩
 ·rw [Z68];exact decide_eq_decide.2 (by omega)
 ·rw [Z77];symm;exact Zf (by omega)
theorem Ya {z:Int} {n:Nat} {b:Bool} (hn:n=z.natAbs) (h:(b=true/\z<=0)\/(b=false/\0<=z)):z30.F (lb n) b=some (lb z.natAbs,neg z):=by
 subst hn;exact whole_Of' h
theorem whole_From {z:Int} (h:-9223372036854775808<=z/\z<9223372036854775808):z55.F z=some (lb z.natAbs,neg z):=by
 unfold z55.F
 by_cases hz:z<0
 ·have e:wr .u64 (0-wr .u64 z)=((z.natAbs:Nat):Int):=by rw [Wu z,Wu];omega
  rw [bif_t hz,e,W0 (by omega)]
  simp only [Zb,Zi]
  rw [whole_Of' (z:=z) (.inl ⟨rfl,by omega⟩)];rfl
 ·have e:wr .u64 z=((z.natAbs:Nat):Int):=by rw [Qn (by omega) (by omega)];omega
  rw [Qc hz,e,W0 (by omega)]
  simp only [Zb,Zi]
  rw [whole_Of' (z:=z) (.inr ⟨rfl,by omega⟩)];rfl
theorem Qkh (z:Int):z41.F (lb z.natAbs) (neg z)=some (lb (-z).natAbs,neg (-z)):=by
 unfold z41.F
 rw [Ya (z:=-z) (by omega) (by by_cases h:z<0;exact .inr ⟨by simp [neg,h],by omega⟩;exact .inl ⟨by simp [neg,h],by omega⟩)]
 rfl
theorem Qal (z:Int):z29.F (lb z.natAbs) (neg z)=some (cmpI z 0):=by
 unfold z29.F cmpI
 rw [Wq]
 simp only [Zb]
 by_cases h0:z=0
 ·subst h0;rfl
 ·rw [Qc (by omega)]
  by_cases h:z<0
  ·rw [bif_t h,if_pos h]
  ·rw [Qc h,if_neg h,if_neg h0]
theorem Qon {x y:Int} (hl:(lb x.natAbs).length+(lb y.natAbs).length<=800000000):z40.F (lb x.natAbs) (neg x) (lb y.natAbs) (neg y)=some (lb (x+y).natAbs,neg (x+y)):=by
 unfold z40.F
 by_cases hs:neg x=neg y
 ·have hs':(x<0↔y<0):=by simpa [neg] using hs
  rw [bif_t hs,Qft hl]
  simp only [Zb]
  rw [Ya (z:=x+y) (by omega) (by by_cases hx:x<0;exact .inl ⟨Zt hx,by omega⟩;exact .inr ⟨Zf hx,by omega⟩)]
  rfl
 ·have hs':¬(x<0↔y<0):=by simpa [neg] using hs
  rw [Qc hs,Qd4 (by omega)]
  simp only [Zb]
  by_cases hc:y.natAbs<=x.natAbs
  ·rw [if_pos hc]
   simp only [Zd]
   rw [Ya (z:=x+y) (by omega) (by by_cases hx:x<0;exact .inl ⟨Zt hx,by omega⟩;exact .inr ⟨Zf hx,by omega⟩)]
   rfl
  ·rw [if_neg hc]
   simp only [Zc]
   rw [Qd4 (by omega),if_pos (by omega)]
   simp only [Zb]
   rw [Ya (z:=x+y) (by omega) (by by_cases hy:y<0;exact .inl ⟨Zt hy,by omega⟩;exact .inr ⟨Zf hy,by omega⟩)]
   rfl
theorem Qsw {x y:Int} (hl:(lb x.natAbs).length+(lb y.natAbs).length<=800000000):z42.F (lb x.natAbs) (neg x) (lb y.natAbs) (neg y)=some (lb (x-y).natAbs,neg (x-y)):=by
 unfold z42.F
 rw [Qkh]
 simp only [Zb]
 rw [Qon (by rw [Int.natAbs_neg];exact hl)]
 rfl
theorem Qlp {x y:Int} (hl:(lb x.natAbs).length+(lb y.natAbs).length<=800000000):z43.F (lb x.natAbs) (neg x) (lb y.natAbs) (neg y)=some (cmpI x y):=by
 unfold z43.F
 rw [Qsw hl]
 simp only [Zb]
 rw [Qal,Qsg]
 rfl
theorem Qp4 (x y:Int):((!decide (neg x=neg y))&&decide (0<x.natAbs*y.natAbs))=neg (x*y):=by
 have h0:0<x.natAbs*y.natAbs↔x≠0/\y≠0:=by
  constructor
  ·intro h;exact ⟨by rintro rfl;simp at h,by rintro rfl;simp at h⟩
  ·rintro ⟨h1,h2⟩;exact Nat.mul_pos (by omega) (by omega)
 rw [Z48]
 simp only [Z3,Z52,decide_eq_true_eq,decide_eq_false_iff_not,h0]
 rcases Int.lt_trichotomy x 0 with hx|hx|hx<;>rcases Int.lt_trichotomy y 0 with hy|hy|hy
 ·have:=Int.mul_pos_of_neg_of_neg hx hy;simp [hx,hy];omega
 ·subst hy;simp
 ·have:=Int.mul_neg_of_neg_of_pos hx hy;simp [hx];omega
 ·subst hx;simp
 ·subst hx;simp
 ·subst hx;simp
 ·have:=Int.mul_neg_of_pos_of_neg hx hy;simp [hy];omega
 ·subst hy;simp
 ·have:=Int.mul_pos hx hy;simp;omega
theorem Qe7 {x y:Int} (hl:(lb x.natAbs).length+(lb y.natAbs).length<=800000000):z57.F (lb x.natAbs) (neg x) (lb y.natAbs) (neg y)=some (lb (x*y).natAbs,neg (x*y)):=by
 unfold z57.F
 rw [Qax hl]
 simp only [Zb]
 rw [whole_Of,Qp4,Int.natAbs_mul]
 rfl
def sz (n:Nat):Nat:=(toB 10 n).length
theorem Qc6 (n:Nat):n<10^sz n:=Qf3 b10
theorem Q4 {n k:Nat} (h:n<10^k):sz n<=k:=Jn b10 h
theorem Qeg {m n:Nat} (h:m<=n):sz m<=sz n:=Q4 (Nat.lt_of_le_of_lt h (Qc6 n))
theorem Q1 (n:Nat):(lb n).length<=sz n:=Jn bL (Z11 (Qc6 n) (Nat.pow_le_pow_left (by decide) _))
theorem Qa4 (m n:Nat):sz (m*n)<=sz m+sz n:=Q4 (by rw [Z83];exact Nat.mul_lt_mul_of_lt_of_le (Qc6 m) (Z55 (Qc6 n)) (Nat.pow_pos (by decide)))
theorem Qgq:sz 0=0:=by simp [sz,toB_zero]
theorem lb_zero:lb 0=[]:=toB_zero LB
def isD (b:UInt8):Bool:=decide (48<=b.toNat)&&decide (b.toNat<=57)
def digs (s:J1):Bool:=s.all isD
theorem Jz {s:J1}:digs s=true↔Qx s:=by simp [digs,Qx,digit,isD]
theorem Ql2 (b c:UInt8):(b == c)=decide (b.toNat=c.toNat):=by
 rw [Z48];simp [UInt8.toNat_inj]
theorem Qn2 (b:UInt8):([48,49,50,51,52,53,54,55,56,57]:J1).contains b=isD b:=by
 rw [Z48]
 simp only [List.contains_cons,List.contains_nil,Ql2,isD]
 simp
 omega
theorem Qc5 {α:Type} {p:α->Bool}:∀{l:List α},l.dropWhile p=[]↔∀x∈l,p x=true
 |[]=>by simp
 |
  a::l=>by
  by_cases h:p a=true
  ·rw [List.dropWhile_cons_of_pos h,Qc5 (l:=l)];simp [h]
  ·rw [List.dropWhile_cons_of_neg h];simp [h]
theorem Qkp (s cs:J1):Lib.trimS s cs=[]↔∀b∈s,cs.contains b=true:=by
 unfold Lib.trimS Lib.trimLeftS Lib.trimRightS
 rw [Qc5]
 constructor
 ·intro h
  cases he:s.reverse.dropWhile (cs.contains ·) with
  |
   nil=>
   rw [Qc5] at he
   exact λb hb=>he b (List.mem_reverse.2 hb)
  |
   cons x l=>
   have h1:=List.head?_dropWhile_not (cs.contains ·) s.reverse
   rw [he] at h1
   have h2:=h x (by rw [he];simp)
   simp only [List.head?_cons] at h1
   rw [h2] at h1;simp at h1
 ·intro h
  have he:s.reverse.dropWhile (cs.contains ·)=[]:=Qc5.2 λb hb=>h b (List.mem_reverse.1 hb)
  rw [he];simp
theorem Qh0 (s:J1) (hs:s.length<=9223372036854775807):∃r,z3.F s [48,49,50,51,52,53,54,55,56,57]=some r/\decide (r=[])=digs s:=by
 unfold z3.F
 rw [if_pos ⟨hs,by decide,by decide⟩]
 refine ⟨_,rfl,?_⟩
 rw [Z48,decide_eq_true_iff,Qkp,digs,Z9]
 simp only [Qn2]
def numOK (s:J1):Bool:=!decide (s=[])&&digs s && !(decide (1<s.length)&&decide ((s.getD 0 0).toNat=48))
def mDigits (s:J1):Nat×Int:=if 4096<s.length then (0,7) else if numOK s then ((tv 0 s).toNat,0) else (0,5)
theorem Qsq {s:J1} {i:Nat} (hi:i<s.length) (h:(s.getD i 0).toNat<128):Utf8.decode ⟨s.toArray⟩ i=((s.getD i 0).toNat,1):=by
 have e:(ByteArray.mk s.toArray).get! (i+0)=s.getD i 0:=by
  show s.toArray[i+0]! = _
  simp [List.getD,hi]
 unfold Utf8.decode
 simp only [e]
 rw [if_pos h]
theorem Qg4 {n:Int} (h1:-2147483648<=n) (h2:n<2147483648):wr .i32 n=n:=by
 simp only [wr,IntKind.wrap,IntKind.signed,IntKind.bits]
 simp;omega
theorem Qhj {s:J1} (hs:Qx s) (hl:s.length<=18):∀(f i:Nat) (d:Int),i+f=s.length->0<=d/\d<(10^i:Nat) ->
  Runs (λrec x=>z37.l2P s rec some x) (d,i) (tv d (s.drop i),s.length)
 |
  0,i,d,hf,_=>by
  have:i=s.length:=by omega
  subst this
  refine .done λrec=>?_
  unfold z37.l2P
  simp only
  rw [if_neg (by omega),Z63 (Z5 _)]
  rfl
 |
  f+1,i,d,hf,hd=>by
  have hi:i<s.length:=by omega
  have hb:=hs s[i] (Z10 hi)
  unfold digit at hb
  have eg:s.getD i 0=s[i]:=by simp [List.getD,hi]
  have hp:(10^i:Nat)<=10^17:=Z60 (by decide) (by omega)
  have hp':((10^i:Nat):Int)<=100000000000000000:=Int.ofNat_le.2 hp
  have ih:=Qhj hs hl f (i+1) (10*d+(s[i].toNat:Int)-48) (by omega) ⟨by omega,by rw [Z45,Z37];omega⟩
  rw [Z40 hi]
  refine .step (λrec=>?_) ih
  unfold z37.l2P
  simp only
  rw [if_pos hi,Qsq hi (by rw [eg];omega),eg]
  simp only
  rw [Qg4 (by omega) (by omega),Qn (n:=(s[i].toNat:Int)-48) (by omega) (by omega),Qn (n:=10*d) (by omega) (by omega),Qn (by omega) (by omega)]
  congr 2;omega
theorem Qsy {s:J1} {n j k:Nat} (hs:Qx s) (hk:k<=s.length) (hk':k<=18) (hn:n<10^j) (hj:j<=8192) {R:Type} (rec done:(J1×Bool×J0)->Option R) :
  z37.j1011a rec done (k:Int) s (lb n)=rec (s.drop k,false,lb (n*1000000000000000000+(tv 0 (s.take k)).toNat)):=by
 have hds:Qx (s.take k):=λb hb=>hs b (Z59 hb)
 have hlen:(s.take k).length=k:=by rw [Z14];omega
 have htb:=Jr hds
 rw [hlen] at htb
 have hp:(10^k:Nat)<=10^18:=Z60 (by decide) hk'
 have hp':((10^k:Nat):Int)<=1000000000000000000:=Int.ofNat_le.2 hp
 have r:=Qhj hds (by omega) (s.take k).length 0 0 (by omega) ⟨Int.le_refl 0,by decide⟩
 have er:z37.l2a (s.take k) ((0:Int),0)=some (tv 0 (s.take k),(s.take k).length):=r.lfp
 obtain ⟨U,hU⟩:∃U:Nat,1000000000000000000=U:=⟨_,rfl⟩
 have hU':Int.toNat 1000000000000000000=U:=by omega
 have hUs:sz U<=19:=Q4 (by omega)
 have hsn:=Z41 (Q1 n) (Q4 hn)
 have hsu:=Z41 (Q1 U) hUs
 have hsm:=Z41 (Q1 (n*U)) (Z41 (Qa4 n U) (Nat.add_le_add (Q4 hn) hUs))
 have hst:=Z41 (Q1 (tv 0 (s.take k)).toNat) (Q4 (k:=18) (by omega))
 have e1:z15.F [(1000000000000000000:Int)]=some (lb U):=by rw [W0 (by omega),hU']
 have e2:z15.F [tv 0 (s.take k)]=some (lb (tv 0 (s.take k)).toNat):=W0 (by omega)
 have e3:z36.F (lb n) (lb U)=some (lb (n*U)):=Qax (by omega)
 have e4:z35.F (lb (n*U)) (lb (tv 0 (s.take k)).toNat)=some (lb (n*U+(tv 0 (s.take k)).toNat)):=Qft (by omega)
 have e5:(0:Int)<=(k:Int)/\(k:Int)<=((s.length:Nat):Int):=by omega
 rw [hU]
 unfold z37.j1011a
 rw [if_pos e5,Zi,er]
 simp only [Zb]
 rw [e1]
 simp only [Zb]
 rw [e3]
 simp only [Zb]
 rw [e2]
 simp only [Zb]
 rw [e4]
 simp only [Zb]
 rw [if_pos e5]
theorem Qk9:∀(m:Nat) (s:J1),s.length<=m->Qx s->∀(n j:Nat) (first:Bool),n<10^j->j+s.length<=8192->((first=true/\n=0)\/(first=false/\s.length%18=0)) ->
  ∃f',Runs (λrec x=>z37.l0P rec some x) (s,first,lb n) ([],f',lb (tv n s).toNat)
 |
  0,s,hm,hs,n,j,first,hn,hj,hf=>by
  have:s=[]:=List.length_eq_zero_iff.1 (by omega)
  subst this
  refine ⟨first,.done λrec=>?_⟩
  simp [z37.l0P,tv]
 |
  m+1,s,hm,hs,n,j,first,hn,hj,hf=>by
  by_cases hne:s=[]
  ·subst hne
   refine ⟨first,.done λrec=>?_⟩
   simp [z37.l0P,tv]
  ·have hpos:0<s.length:=Z26.2 hne
   have key:∃k:Nat,0<k/\k<=s.length/\k<=18/\(n=0\/k=18)/\(s.length-k)%18=0 /\
     ∀rec,z37.l0P rec some (s,first,lb n)=z37.j1011a rec some (k:Int) s (lb n):=by
    have hd:(!decide (s=([]:J1)))=true:=by rw [Zf hne];rfl
    rcases hf with ⟨rfl,hn0⟩|⟨rfl,h18⟩
    ·have em:Int.tmod (s.length:Int) 18=((s.length%18:Nat):Int):=by rw [Qgk (by omega)];rfl
     by_cases h0:s.length%18=0
     ·refine ⟨18,by omega,by omega,by omega,.inr rfl,by omega,λrec=>?_⟩
      unfold z37.l0P
      simp only [hd,Zn,Zd,Zc]
      rw [em,bif_t (by omega)];rfl
     ·refine ⟨s.length%18,by omega,Nat.mod_le _ _,by omega,.inl hn0,by omega,λrec=>?_⟩
      unfold z37.l0P
      simp only [hd,Zn,Zd,Zc]
      rw [em,Qc (by omega)]
    ·refine ⟨18,by omega,by omega,by omega,.inr rfl,by omega,λrec=>?_⟩
     unfold z37.l0P
     simp only [hd,Zo,Zd]
     rfl
   obtain ⟨k,k0,k1,k2,k3,k4,k5⟩:=key
   have hds:Qx (s.take k):=λb hb=>hs b (Z59 hb)
   have hdd:Qx (s.drop k):=λb hb=>hs b (Z72 hb)
   have hlen:(s.take k).length=k:=by rw [Z14];omega
   have htb:=Jr hds
   rw [hlen] at htb
   have htv:tv n (s.take k)=((n*1000000000000000000+(tv 0 (s.take k)).toNat:Nat):Int):=by
    rw [Qdp,hlen]
    rcases k3 with h|h
    ·subst h;simp;omega
    ·subst h
     have:((10^18:Nat):Int)=1000000000000000000:=rfl
     rw [this];omega
   have hn':n*1000000000000000000+(tv 0 (s.take k)).toNat<10^(j+k):=by
    have hp0:0<10^j:=Nat.pow_pos (by decide)
    rcases k3 with h|h
    ·subst h
     have:10^k<=10^(j+k):=Z60 (by decide) (by omega)
     omega
    ·subst h
     have e18:(10^(j+18):Nat)=10^j*1000000000000000000:=by rw [Z83]
     have e18':((10^18:Nat):Int)=1000000000000000000:=rfl
     rw [e18]
     have:(n+1)*1000000000000000000<=10^j*1000000000000000000:=Z22 _ hn
     omega
   obtain ⟨f',r⟩:=Qk9 m (s.drop k) (by rw [Z17];omega) hdd (n*1000000000000000000+(tv 0 (s.take k)).toNat) (j+k) false hn' (by rw [Z17];omega) (.inr ⟨rfl,by rw [Z17];exact k4⟩)
   refine ⟨f',.step (y:=(s.drop k,false,lb (n*1000000000000000000+(tv 0 (s.take k)).toNat))) (λrec=>?_) ?_⟩
   ·rw [k5,Qsy hs k1 k2 hn (by omega)]
   ·have e:tv n s=tv ((n*1000000000000000000+(tv 0 (s.take k)).toNat:Nat):Int) (s.drop k):=by
     conv=>lhs;rw [<-List.take_append_drop k s]
     rw [Qe1,htv]
    rw [e];exact r
theorem digits_Parse (s:J1):z37.F s=some (lb (mDigits s).1,(mDigits s).2):=by
 unfold z37.F mDigits
 by_cases h1:4096<s.length
 ·rw [bif_t (by omega),if_pos h1,lb_zero]
 ·rw [Qc (by omega),if_neg h1]
  by_cases h2:s=[]
  ·subst h2;rw [bif_t rfl];simp [numOK,lb_zero]
  ·rw [Qc h2]
   obtain ⟨r,t1,t2⟩:=Qh0 s (by omega)
   rw [t1]
   simp only [Zb]
   rw [t2]
   cases hd:digs s with
   |false=>simp [numOK,hd,lb_zero]
   |
    true=>
    have hds:=Jz.1 hd
    obtain ⟨f',r⟩:=Qk9 s.length s (Z5 _) hds 0 0 true (by decide) (by omega) (.inl ⟨rfl,rfl⟩)
    rw [lb_zero] at r
    have er:z37.l0 (s,true,[])=some ([],f',lb (tv ((0:Nat):Int) s).toNat):=r.lfp
    simp only [Zn,Zc]
    rw [er]
    have hpos:0<s.length:=Z26.2 h2
    by_cases h3:1<s.length
    ·rw [bif_t (by omega),if_pos (by omega)]
     by_cases h4:(s.getD 0 0).toNat=48
     ·rw [bif_t (by omega)]
      have:numOK s=false:=by simp [numOK,h3];intro _ _ ;simpa [List.getD] using h4
      rw [this];simp [lb_zero]
     ·rw [Qc (by omega)]
      have:numOK s=true:=by simp only [numOK,Zf h2,hd,Zf h4];simp
      rw [this];rfl
    ·rw [Qc (by omega)]
     have:numOK s=true:=by simp only [numOK,Zf h2,hd,Zf h3];simp
     rw [this];rfl
theorem Qfz (a:Int) (h0:0<=a) (h1:a<9223372036854775808):wr .i64 ((BitVec.ofInt (IntKind.bits .i64) a &&& BitVec.ofInt (IntKind.bits .i64) (1:Int)).toNat:Int)=a%2:=by
 have e:(BitVec.ofInt (IntKind.bits .i64) a &&& BitVec.ofInt (IntKind.bits .i64) (1:Int)).toNat=(a%2).toNat:=by
  rw [BitVec.toNat_and]
  have e1:(BitVec.ofInt (IntKind.bits .i64) (1:Int)).toNat=2^1-1:=rfl
  have e2:(BitVec.ofInt (IntKind.bits .i64) a).toNat=(a%18446744073709551616).toNat:=by
   rw [BitVec.toNat_ofInt];rfl
  rw [e1,Nat.and_two_pow_sub_one_eq_mod,e2]
  omega
 rw [e,Qj (by omega) (by omega)];omega
theorem shr1 (a:Int):Int.fdiv a (2^(min 1 (64:Nat)))=a/2:=by
 rw [Int.fdiv_eq_ediv_of_nonneg _ (by decide)];rfl
theorem Qds:∀(f t n out:Nat),t<=f->t<9223372036854775808->sz out+t*sz n<=800000000 ->
  ∃n',Runs (λrec x=>z44.l0P rec some x) ((t:Int),lb n,lb out) ((0:Int),n',lb (out*n^t))
 |
  0,t,n,out,hf,ht,hb=>by
  have:t=0:=by omega
  subst this
  refine ⟨lb n,.done λrec=>?_⟩
  simp [z44.l0P]
 |
  f+1,t,n,out,hf,ht,hb=>by
  rcases Z13 t with h0|h0
  ·subst h0
   refine ⟨lb n,.done λrec=>?_⟩
   simp [z44.l0P]
  ·have hn:=Q1 n
   have ho:=Q1 out
   have hsq:=Qa4 n n
   have hon:=Qa4 out n
   have e2:(t:Int)/2=((t/2:Nat):Int):=by omega
   have em:(t:Int)%2=((t%2:Nat):Int):=by omega
   have hq:t*sz n=2*(t/2*sz n)+t%2*sz n:=by
    conv=>lhs;rw [<-Z58 t 2]
    rw [Z30,Z80]
   have hq2:t/2*sz (n*n)<=2*(t/2*sz n):=by
    have:=Nat.mul_le_mul_left (t/2) hsq
    have e:t/2*(sz n+sz n)=2*(t/2*sz n):=by rw [Nat.mul_add];omega
    omega
   have hpow:n^t=n^(t%2)*(n*n)^(t/2):=by
    rw [<-Nat.pow_two,<-Nat.pow_mul,<-Z83];congr 1;omega
   by_cases hodd:t%2=1
   ·rw [hodd,Z78] at hq
    by_cases h1:1<t
    ·have hge:1<=t/2:=by omega
     have hge':sz n<=t/2*sz n:=Nat.le_mul_of_pos_left _ hge
     obtain ⟨n',r⟩:=Qds f (t/2) (n*n) (out*n) (by omega) (by omega) (by omega)
     refine ⟨n',.step (λrec=>?_) (by rw [hpow,hodd,Nat.pow_one,<-Z80];exact r)⟩
     unfold z44.l0P
     simp only
     rw [bif_t (by omega),Qfz _ (by omega) (by omega),em,hodd,bif_t (by omega),Qax (by omega)]
     simp only [Zb]
     rw [bif_t (by omega),Qax (by omega),shr1,e2]
     rfl
    ·have ht1:t=1:=by omega
     subst ht1
     obtain ⟨n',r⟩:=Qds f 0 n (out*n) (by omega) (by omega) (by omega)
     refine ⟨n',.step (λrec=>?_) (by simpa using r)⟩
     unfold z44.l0P
     simp only
     rw [bif_t (by omega),Qfz _ (by omega) (by omega),bif_t (by decide),Qax (by omega)]
     simp only [Zb]
     rw [Qc (by omega),shr1]
     rfl
   ·have h2:t%2=0:=by omega
    rw [h2,Nat.zero_mul,Z73] at hq
    have hge:1<=t/2:=by omega
    have hge':sz n<=t/2*sz n:=Nat.le_mul_of_pos_left _ hge
    obtain ⟨n',r⟩:=Qds f (t/2) (n*n) out (by omega) (by omega) (by omega)
    refine ⟨n',.step (λrec=>?_) (by rw [hpow,h2,Nat.pow_zero,Z78];exact r)⟩
    unfold z44.l0P
    simp only
    rw [bif_t (by omega),Qfz _ (by omega) (by omega),em,h2,Qc (by omega),bif_t (by omega),Qax (by omega)]
    simp only [Zb]
    rw [shr1,e2]
theorem digits_power {n t:Nat} (ht:t<9223372036854775808) (h:t*sz n<=700000000):z44.F (lb n) (t:Int)=some (lb (n^t)):=by
 have h1:sz 1<=1:=Q4 (by decide)
 obtain ⟨n',r⟩:=Qds t t n 1 (Z5 _) ht (by omega)
 have e:z44.l0 ((t:Int),lb n,lb 1)=some ((0:Int),n',lb (1*n^t)):=r.lfp
 unfold z44.F
 rw [W0 (by omega)]
 simp only [Zb]
 rw [show Int.toNat 1=1 from rfl,e,Z78]
 rfl
theorem digits_Ten {t:Nat} (ht:t<=4096):z45.F (t:Int)=some (lb (10^t),0):=by
 have h1:sz 10<=2:=Q4 (by decide)
 have h2:=Nat.mul_le_mul_left t h1
 unfold z45.F
 rw [Qc (by omega),Qc (by omega),W0 (by omega)]
 simp only [Zb]
 rw [show Int.toNat 10=10 from rfl,digits_power (by omega) (by omega)]
 rfl
def Yx (a b:Nat):Prop:=z25.F (lb a) (lb b)=some (lb (a/b),lb (a%b),0)
def Qai (M:Nat):Prop:=∀x y,x<=M->y<=M->0<y->Yx x y
theorem Qc7 {m n:Int}:cmpI m n<0↔m<n:=by unfold cmpI;split<;>(try split)<;>omega
theorem Qcj {m n:Int}:cmpI m n>0↔n<m:=by unfold cmpI;split<;>(try split)<;>omega
theorem Qjz {m n:Int}:cmpI m n=0↔m=n:=by unfold cmpI;split<;>(try split)<;>omega
theorem Qch {a:Nat} (h0:0<a) (h:a<18446744073709551616):lb a=[(a:Int)]:=by
 show toB LB a=_
 rw [Yb bL h0,Nat.mod_eq_of_lt h,Nat.div_eq_of_lt h,toB_zero]
theorem Qgz {a b:Int} (ha:0<=a/\a<18446744073709551616) (hb:0<b):z19.F 0 a b=some (a/b,a%b):=by
 unfold z19.F
 rw [Qc (by omega),Qc (by omega),bif_t rfl,if_neg (by omega),if_neg (by omega),Qf2 ha.1,Qgk ha.1]
 have h1:=Int.ediv_nonneg ha.1 (Int.le_of_lt hb)
 have h2:=Int.ediv_le_self b ha.1
 rw [Qn h1 (by omega)]
theorem Qsc {a b:Int} (ha:0<=a/\a<18446744073709551616) (hb:0<b):z20.F [a] b=some ([a/b],a%b):=by
 have h0:z20.l0 [a] b ((0:Int),(0:Int),[(0:Int)])=some (a%b,(-1:Int),[a/b]):=by
  refine (Runs.step (y:=(a%b,(-1:Int),[a/b])) (λrec=>?_) (Runs.done λrec=>?_):Runs (λrec x=>z20.l0P [a] b rec some x) _ _).lfp
  ·unfold z20.l0P
   simp only [Z19]
   rw [bif_t (by omega),if_pos (by omega),show [a].getD (Int.toNat 0) 0=a from rfl,Qgz ha hb]
   rfl
  ·unfold z20.l0P
   simp only
   rw [Qc (by omega)]
 unfold z20.F
 simp only [Z19]
 rw [if_pos (by omega)]
 show ((z20.l0 [a] b ((0:Int),wr .i64 0,[(0:Int)])).bind _)=_
 rw [Qj (by omega) (by omega),h0]
 rfl
theorem Qkr {a b:Nat} (h:a<b) (hs:(lb a).length<=900000000):Yx a b:=by
 unfold Yx z25.F
 rw [Wq]
 simp only [Zb]
 rw [Qc (by omega),Qdg hs]
 simp only [Zb]
 have:cmpI (a:Int) b<0:=by unfold cmpI;rw [if_pos (by omega)];decide
 rw [bif_t this,Nat.div_eq_of_lt h,Nat.mod_eq_of_lt h,lb_zero]
theorem Qn5 {a b:Nat} (ha:a<18446744073709551616) (hb:0<b):Yx a b:=by
 have hl:(lb a).length<=1:=Jn bL (by simpa using ha)
 rcases Z53 a b with h|h
 ·exact Qkr h (by omega)
 ·unfold Yx z25.F
  rw [Wq]
  simp only [Zb]
  rw [Qc (by omega),Qdg (by omega)]
  simp only [Zb]
  have:¬cmpI (a:Int) b<0:=by unfold cmpI;rw [if_neg (by omega)];split<;>omega
  rw [Qc this,Qch (by omega) ha,Qch hb (by omega),Qbc (by show List.length _<=_;simp),Qbc (by show List.length _<=_;simp)]
  simp only [Zb,Z19]
  rw [bif_t (by omega),if_pos (by omega),show [(b:Int)].getD 0 0=b from rfl,Qsc (by omega) (by omega)]
  simp only [Zb]
  have b1:a/b<=a:=Nat.div_le_self a b
  have b2:a%b<=a:=Nat.mod_le a b
  obtain ⟨q,hq⟩:∃q,a/b=q:=⟨_,rfl⟩
  obtain ⟨m,hm⟩:∃m,a%b=m:=⟨_,rfl⟩
  have e1:((a:Int)/b)=(q:Int):=by rw [<-hq];rfl
  have e2:((a:Int)%b)=(m:Int):=by rw [<-hm];rfl
  rw [hq] at b1 ⊢
  rw [hm] at b2 ⊢
  rw [e1,e2,W0 (by omega)]
  simp only [Zb]
  rw [W0 (by omega)]
  rfl
theorem quot_Gcd {M:Nat} (hD:Qai M) {a b:Nat} (ha:a<=M) (hb:b<=M):z61.F (lb a) (lb b)=some (lb (Nat.gcd a b)):=by
 have key:∀(f a b:Nat),b<f->a<=M->b<=M->Runs (λrec x=>z61.l0P rec some x) (lb a,lb b) (lb (Nat.gcd a b),[]):=by
  intro f
  induction f with
  |zero=>intro a b h;omega
  |
   succ f ih=>
   intro a b h ha hb
   rcases Z13 b with h0|h0
   ·subst h0
    refine .done λrec=>?_
    unfold z61.l0P
    simp only [Wq,Zb]
    rw [Nat.gcd_zero_right,lb_zero];rfl
   ·have hm:=Z81 a h0
    have hmm:=Nat.mod_le a b
    have e:Nat.gcd a b=Nat.gcd b (a%b):=by rw [Nat.gcd_comm,Nat.gcd_rec,Nat.gcd_comm]
    rw [e]
    refine .step (λrec=>?_) (ih b (a%b) (by omega) hb (by omega))
    unfold z61.l0P
    simp only [Wq,Zb]
    rw [Zf (by omega),Zo,Zd,hD a b ha hb h0]
    rfl
 unfold z61.F
 have e:z61.l0 (lb a,lb b)=some (lb (Nat.gcd a b),[]):=(key (b+1) a b (by omega) ha hb).lfp
 rw [e];rfl
theorem Qpi (z:Int):decide (cmpI z 0<0)=neg z:=by
 unfold cmpI;apply decide_eq_decide.2;split<;>(try split)<;>omega
theorem Qjf {z:Int} {g:Nat} (h:g∣z.natAbs) (h0:0<g):(z/(g:Int)).natAbs=z.natAbs/g/\(z/(g:Int)<0↔z<0):=by
 obtain ⟨k,hk⟩:=Int.ofNat_dvd_left.2 h
 subst hk
 have hg:(g:Int)≠0:=by omega
 rw [Int.mul_ediv_cancel_left _ hg,Int.natAbs_mul,Int.natAbs_natCast,Nat.mul_div_cancel_left _ h0]
 refine ⟨rfl,?_⟩
 constructor
 ·intro h;exact Int.mul_neg_of_pos_of_neg (by omega) h
 ·intro h
  rcases Int.lt_or_le k 0 with h'|h'
  ·exact h'
  ·have:=Z69 (show (0:Int)<=g by omega) h';omega
theorem frac_made {M:Nat} (hD:Qai M) {num:Int} {den:Nat} (h0:0<den) (hn:num.natAbs<=M) (hd:den<=M) (hs:sz den<=700000000) :
  z62.F (lb num.natAbs) (neg num) (lb den)=some (lb (mkRat num den).num.natAbs,neg (mkRat num den).num,lb ((mkRat num den).den-1)):=by
 have hg:0<Nat.gcd num.natAbs den:=Nat.gcd_pos_of_pos_right _ h0
 have hgd:Nat.gcd num.natAbs den<=den:=Nat.gcd_le_right _ h0
 have hdv:=Nat.gcd_dvd_right num.natAbs den
 have hdv2:=Nat.gcd_dvd_left num.natAbs den
 have hp:0<den/Nat.gcd num.natAbs den:=Nat.div_pos hgd hg
 have hle:den/Nat.gcd num.natAbs den<=den:=Nat.div_le_self _ _
 have hsz:=Z41 (Q1 _) (Z41 (Qeg hle) hs)
 obtain ⟨q1,q2⟩:=Qjf hdv2 hg
 unfold z62.F z60.F
 simp only [Zb]
 rw [quot_Gcd hD hn hd]
 simp only [Zb]
 rw [Rat.num_mkRat,Rat.den_mkRat,if_neg (by omega),if_neg (by omega),Nat.gcd_comm den]
 generalize Nat.gcd num.natAbs den=g at *
 have d1:z25.F (lb num.natAbs) (lb g)=_:=hD _ _ hn (by omega) hg
 have d2:z25.F (lb den) (lb g)=_:=hD _ _ hd (by omega) hg
 rw [d1]
 simp only [Zb]
 rw [d2]
 simp only [Zb]
 rw [W0 (by omega)]
 simp only [Zb]
 rw [show Int.toNat 1=1 from rfl,Qd4 (by omega),if_pos (by omega)]
 simp only [Zb]
 rw [Qal]
 simp only [Zb]
 rw [Qpi,Ya (z:=num/(g:Int)) q1.symm (by
  have hz:num/(g:Int)<0↔num<0:=q2
  by_cases h:num<0
  ·exact .inl ⟨Zt h,by omega⟩
  ·exact .inr ⟨Zf h,by omega⟩)]
 rfl
abbrev fr (q:Rat):J0×Bool×J0:=(lb q.num.natAbs,neg q.num,lb (q.den-1))
theorem frac_Of {M:Nat} (hD:Qai M) {num den:Int} (h0:den≠0) (hn:num.natAbs<=M) (hd:den.natAbs<=M) (hs:sz den.natAbs<=700000000) :
  z63.F (lb num.natAbs) (neg num) (lb den.natAbs) (neg den)=some ((fr (Rat.divInt num den)).1,(fr (Rat.divInt num den)).2.1,(fr (Rat.divInt num den)).2.2,0):=by
 have hc:cmpI den 0=if den<0 then -1 else 1:=by
  unfold cmpI
  by_cases h:den<0
  ·rw [if_pos h,if_pos h]
  ·rw [if_neg h,if_neg h,if_neg h0]
 unfold z63.F
 rw [Qal]
 simp only [Zb]
 rw [hc]
 by_cases h:den<0
 ·have e:Rat.divInt num den=mkRat (-num) den.natAbs:=by
   have:den = -((den.natAbs:Nat):Int):=by omega
   conv=>lhs;rw [this]
   rw [Rat.divInt_neg',Rat.divInt_ofNat]
  rw [if_pos h,Qc (by decide),bif_t rfl,Qkh]
  simp only [Zb]
  unfold z63.j4 z60.F
  simp only [Zb]
  rw [frac_made hD (by omega) (by omega) hd hs,e]
  rfl
 ·have e:Rat.divInt num den=mkRat num den.natAbs:=by
   have:den=((den.natAbs:Nat):Int):=by omega
   conv=>lhs;rw [this]
   rw [Rat.divInt_ofNat]
  rw [if_neg h,Qc (by decide),Qc (by decide)]
  unfold z63.j4 z60.F
  simp only [Zb]
  rw [frac_made hD (by omega) hn hd hs,e]
  rfl
theorem Qqq (q:Rat) (a:J0) (b:Bool) (hs:sz q.den<=700000000):z65.F a b (lb (q.den-1))=some (lb q.den):=by
 have h1:sz 1<=1:=Q4 (by decide)
 have h2:=Z41 (Q1 (q.den-1)) (Z41 (Qeg (Nat.sub_le _ _)) hs)
 have h3:=Z41 (Q1 1) h1
 unfold z65.F
 rw [W0 (by omega)]
 simp only [Zb]
 rw [show Int.toNat 1=1 from rfl,Qft (by omega),Nat.sub_add_cancel q.den_pos]
 rfl
theorem Qgy (q:Rat) (a:J0) (b:Bool) (hs:sz q.den<=700000000):z66.F a b (lb (q.den-1))=some (lb (q.den:Int).natAbs,neg (q.den:Int)):=by
 unfold z66.F
 rw [Qqq q a b hs]
 simp only [Zb]
 rw [Ya (z:=(q.den:Int)) (by omega) (.inr ⟨rfl,by omega⟩)]
 rfl
theorem Qs8 (q r:Rat):q/r=Rat.divInt (q.num*r.den) (q.den*r.num):=by
 rw [Rat.div_def,Rat.inv_def]
 conv=>lhs;rw [<-Rat.num_divInt_den q,Rat.divInt_mul_divInt]
theorem Qrz {M:Nat} (hD:Qai M) {q r:Rat} (h0:r≠0) (hn:(q.num*r.den).natAbs<=M) (hd:(q.den*r.num).natAbs<=M) (hs:sz q.num.natAbs+sz r.den<=600000000) (hs':sz r.num.natAbs+sz q.den<=600000000) :
  z67.F (lb q.num.natAbs) (neg q.num) (lb (q.den-1)) (lb r.num.natAbs) (neg r.num) (lb (r.den-1))=some ((fr (q/r)).1,(fr (q/r)).2.1,(fr (q/r)).2.2,0):=by
 have e1:sz (r.den:Int).natAbs=sz r.den:=rfl
 have e2:sz (q.den:Int).natAbs=sz q.den:=rfl
 have l1:=Q1 q.num.natAbs
 have l2:=Q1 (r.den:Int).natAbs
 have l3:=Q1 (q.den:Int).natAbs
 have l4:=Q1 r.num.natAbs
 have hr:r.num≠0:=λh=>h0 (Rat.num_eq_zero.1 h)
 have hqd:=q.den_nz
 have m1:=Qa4 (q.den:Int).natAbs r.num.natAbs
 rw [<-Int.natAbs_mul] at m1
 unfold z67.F
 rw [Qgy r _ _ (by omega)]
 simp only [Zb]
 rw [Qe7 (by omega)]
 simp only [Zb]
 rw [Qgy q _ _ (by omega)]
 simp only [Zb]
 rw [Qe7 (by omega)]
 simp only [Zb]
 rw [frac_Of hD (Int.mul_ne_zero (by omega) hr) hn hd (by show sz _<=_;omega),Qs8]
 rfl
def cutNeg (s:J1):J1×Bool:=match s with|[]=>([],false)|b::t=>if b=45 then (t,true) else (b::t,false)
theorem Qh2 (s:J1):(cutNeg s).1.length<=s.length:=by
 unfold cutNeg;split
 ·simp
 ·split<;>simp
theorem Qgl (s:J1):z33.F s [45]=some (cutNeg s):=by
 unfold z33.F z32.F z31.F cutNeg
 cases s with
 |nil=>rfl
 |
  cons b t=>
  have e1:([45]:J1).length=1:=rfl
  have e2:Int.toNat ((1:Nat):Int)=1:=rfl
  simp only [e1,e2]
  rw [bif_t (by simp;omega),if_pos (by simp;omega)]
  simp only [Zb,List.take_succ_cons,List.take_zero,List.drop_succ_cons,Z76,List.cons.injEq,and_true]
  by_cases h:b=45
  ·rw [Zt h,if_pos h,if_pos (by simp;omega)];rfl
  ·rw [Zf h,if_neg h];rfl
def mWhole (s:J1):Int×Int:=
 if (mDigits (cutNeg s).1).2≠0 then (0,(mDigits (cutNeg s).1).2)
 else if (cutNeg s).2&&decide ((mDigits (cutNeg s).1).1=0) then (0,5)
 else (if (cutNeg s).2 then -((mDigits (cutNeg s).1).1:Int) else (mDigits (cutNeg s).1).1,0)
theorem whole_Parse (s:J1):z38.F s=some (lb (mWhole s).1.natAbs,neg (mWhole s).1,(mWhole s).2):=by
 unfold z38.F mWhole
 rw [Qgl]
 simp only [Zb]
 rw [digits_Parse]
 simp only [Zb]
 generalize mDigits (cutNeg s).1=d
 generalize (cutNeg s).2=below
 by_cases h:d.2=0
 ·have h':¬(d.2≠0):=λhh=>hh h
  rw [Zt h,if_neg h']
  simp only [Zn,Zc]
  cases below with
  |
   true=>
   simp only [Zd,Z68,if_true]
   rw [Wq]
   simp only [Zb]
   by_cases h0:d.1=0
   ·rw [Zt h0]
    simp only [if_true,Zd]
    rw [show Int.natAbs 0=0 from rfl,lb_zero];rfl
   ·rw [Zf h0]
    simp only [Zc]
    rw [Ya (z:=-(d.1:Int)) (by omega) (.inl ⟨rfl,by omega⟩)]
    simp
  |
   false=>
   simp only [Zc,Z77]
   rw [Ya (z:=(d.1:Int)) (by omega) (.inr ⟨rfl,by omega⟩)]
   simp
 ·rw [Zf h,if_pos h]
  simp only [Zo,Zd]
  rw [show Int.natAbs 0=0 from rfl,lb_zero];rfl
def cutDot:J1->J1×Option J1
 |[]=>([],none)
 |b::t=>if b=46 then ([],some t) else (b::(cutDot t).1,(cutDot t).2)
theorem Qgu:∀{t:J1},(cutDot t).2=none->(cutDot t).1=t
 |[],_=>rfl
 |
  b::t,h=>by
  unfold cutDot at h ⊢
  split at h
  ·simp at h
  ·rename_i hb
   rw [if_neg hb]
   simp only at h ⊢
   rw [Qgu h]
theorem Qfw:∀{t r:J1},(cutDot t).2=some r->t=(cutDot t).1++46::r
 |[],r,h=>by simp [cutDot] at h
 |
  b::t,r,h=>by
  unfold cutDot at h ⊢
  split at h
  ·rename_i hb
   rw [if_pos hb,hb]
   simp only [Zs] at h
   rw [h];rfl
  ·rename_i hb
   rw [if_neg hb]
   simp only at h ⊢
   conv=>lhs;rw [Qfw h]
   rfl
theorem Jh (b:UInt8) (t:J1) (c:UInt8):byteIdx (b::t) c=if b=c then 0 else if byteIdx t c<0 then -1 else byteIdx t c+1:=by
 unfold byteIdx
 rw [Z6,List.range_succ_eq_map,List.find?_cons]
 by_cases h:b=c
 ·simp [h]
 ·have h1:((b::t).getD 0 0 == c)=false:=by simp [h]
  rw [h1,if_neg h]
  simp only
  rw [List.find?_map]
  have e:((λi=>(b::t).getD i 0 == c)∘Nat.succ)=λi=>t.getD i 0 == c:=by funext i;simp [List.getD]
  rw [e]
  cases (List.range t.length).find? λi=>t.getD i 0 == c with
  |none=>simp
  |some i=>simp;omega
theorem Qhb:∀t:J1,byteIdx t 46=if (cutDot t).2=none then -1 else ((cutDot t).1.length:Int)
 |[]=>by simp [byteIdx,cutDot]
 |
  b::t=>by
  have e:cutDot (b::t)=if b=46 then ([],some t) else (b::(cutDot t).1,(cutDot t).2):=by rw [cutDot]
  rw [Jh,Qhb t,e]
  by_cases h:b=46
  ·simp [h]
  ·rw [if_neg h,if_neg h]
   by_cases h2:(cutDot t).2=none
   ·simp [h2]
   ·simp [h2];omega
def plainB (s:J1):Bool:=!decide (s=[])&&digs s
def zeros (s:J1):Bool:=s.all (· == 48)
theorem dec_plain (s:J1) (h:s.length<=9223372036854775807):z49.F s=some (plainB s):=by
 unfold z49.F plainB
 by_cases h0:s=[]
 ·rw [Zt h0];rfl
 ·rw [Zf h0]
  obtain ⟨r,t1,t2⟩:=Qh0 s h
  simp only [Zo,Zd]
  rw [t1]
  simp only [Zb]
  rw [t2];simp
theorem Qp3 (b:UInt8):([48]:J1).contains b=(b == 48):=by
 simp only [List.contains_cons,List.contains_nil,Bool.or_false]
theorem Qic (s:J1) (hs:s.length<=9223372036854775807):∃r,z3.F s [48]=some r/\decide (r=[])=zeros s:=by
 unfold z3.F
 rw [if_pos ⟨hs,by decide,by decide⟩]
 refine ⟨_,rfl,?_⟩
 rw [Z48,decide_eq_true_iff,Qkp,zeros,Z9]
 simp only [Qp3]
theorem Qkv:∀{s:J1},Qx s->tv 0 (trimL s [48])=tv 0 s/\Qx (trimL s [48])/\(trimL s [48]).length<=s.length/\(trimL s [48]≠[]->((trimL s [48]).getD 0 0).toNat≠48)
 |[],h=>by simp [trimL,tv,Qx]
 |
  b::s,h=>by
  have ih:=Qkv (s:=s) λx hx=>h x (by simp [hx])
  by_cases hb:b=48
  ·have e:trimL (b::s) [48]=trimL s [48]:=by unfold trimL;exact List.dropWhile_cons_of_pos (by rw [hb];decide)
   rw [e]
   refine ⟨?_,ih.2.1,by rw [Z6];omega,ih.2.2.2⟩
   rw [ih.1,hb];rfl
  ·have e:trimL (b::s) [48]=b::s:=by unfold trimL;exact List.dropWhile_cons_of_neg (by simp [hb])
   rw [e]
   refine ⟨rfl,h,Z5 _,λ_ hh=>hb (UInt8.toNat_inj.1 hh)⟩
theorem Qhl {s:J1} (hd:Qx s) (hl:s.length<=4096):z37.F (if trimL s [48]=[] then [48] else trimL s [48])=some (lb (tv 0 s).toNat,0):=by
 obtain ⟨h1,h2,h3,h4⟩:=Qkv hd
 rw [digits_Parse]
 by_cases h:trimL s [48]=[]
 ·rw [if_pos h]
  rw [h] at h1
  rw [<-h1];rfl
 ·rw [if_neg h,<-h1]
  unfold mDigits
  have:numOK (trimL s [48])=true:=by
   unfold numOK
   rw [Zf h,Jz.2 h2,Zf (h4 h)];simp
  rw [if_neg (by omega),this];rfl
def Jy (below:Bool) (a:J1) (o:Option J1):Int×Nat×Int:=
 if !plainB a||(o.isSome && !plainB (o.getD []))||(decide (1<a.length)&&decide ((a.getD 0 0).toNat=48)) then (0,0,5)
 else if below&&zeros (a++o.getD []) then (0,0,5)
 else if 64<(o.getD []).length then (0,0,10)
 else (if below then -tv 0 (a++o.getD []) else tv 0 (a++o.getD []),(o.getD []).length,0)
def mDec (s:J1):Int×Nat×Int:=if 4096<s.length then (0,0,7) else Jy (cutNeg s).2 (cutDot (cutNeg s).1).1 (cutDot (cutNeg s).1).2
abbrev decR (m:Int×Nat×Int):J0×Bool×Int×Int:=(lb m.1.natAbs,neg m.1,(m.2.1:Int),m.2.2)
theorem Yn (e:Int):decR (0,0,e)=([],false,0,e):=by unfold decR;simp [lb_zero]
theorem Qh3 (n:Int) (h:0<=n) (below:Bool):z30.F (lb n.toNat) below=some (lb (if below then -n else n).natAbs,neg (if below then -n else n)):=by
 cases below
 ·rw [Ya (z:=n) (by omega) (.inr ⟨rfl,h⟩)];rfl
 ·rw [Ya (z:=-n) (by omega) (.inl ⟨rfl,by omega⟩)];rfl
theorem Qps {rest a b:J1} {below lead:Bool} (h1:rest.take a.length=a) (h2:rest.drop (a.length+1)=b) (ha:Qx a) (hb:Qx b) (hl:a.length+b.length<=4096) :
  z50.j14 lead (rest,below) (a.length:Int)=some (decR (if lead then (0,0,5) else if below&&zeros (a++b) then (0,0,5) else if 64<b.length then (0,0,10) else (if below then -tv 0 (a++b) else tv 0 (a++b),b.length,0))):=by
 have e1:(wr .i64 ((a.length:Int)+1)).toNat=a.length+1:=by rw [Qj (by omega) (by omega)];omega
 have hab:Qx (a++b):=λx hx=>(Z47.1 hx).elim (ha x) (hb x)
 have hln:(a++b).length<=4096:=by rw [Z8];exact hl
 have key:z50.j16 false (rest,below) (a.length:Int)=some (decR (if 64<b.length then (0,0,10) else (if below then -tv 0 (a++b) else tv 0 (a++b),b.length,0))):=by
  unfold z50.j16
  simp only [e1,Zi,h1,h2,Zc]
  by_cases h64:64<b.length
  ·rw [bif_t (by omega),if_pos h64,Yn]
  ·rw [Qc (by omega),if_neg h64,if_pos (by omega)]
   have et:z4.F (a++b) [48]=some (trimL (a++b) [48]):=by unfold z4.F;rw [if_pos ⟨by decide,by decide⟩]
   rw [et]
   simp only [Zb]
   have ep:=Qhl hab hln
   have fin:∀x,z37.F x=some (lb (tv 0 (a++b)).toNat,0)->z50.j18 x (rest,below) (a.length:Int)=some (decR (if below then -tv 0 (a++b) else tv 0 (a++b),b.length,0)):=λx hx=>by
    unfold z50.j18
    rw [hx]
    simp only [Zb,e1,h2]
    rw [Qh3 _ (Jr hab).1]
    rfl
   by_cases ht:trimL (a++b) [48]=[]
   ·rw [if_pos ht] at ep
    rw [bif_t ht];exact fin _ ep
   ·rw [if_neg ht] at ep
    rw [Qc ht];exact fin _ ep
 unfold z50.j14
 simp only [e1,Zi,h1,h2]
 cases lead with
 |true=>simp only [Zd,if_true];rw [Yn]
 |
  false=>
  simp only [Zc]
  rw [if_neg Bool.false_ne_true]
  cases below with
  |false=>simp only [Zc,Z77];rw [key];rfl
  |
   true=>
   obtain ⟨r,t1,t2⟩:=Qic (a++b) (by omega)
   simp only [Zd,Z68]
   rw [if_pos (by omega),t1]
   simp only [Zb]
   rw [t2]
   cases hz:zeros (a++b) with
   |true=>unfold z50.j16;simp only [Zd,if_true];rw [Yn]
   |false=>rw [key];rfl
theorem Qro {a:J1} {below lead:Bool} (ha:Qx a) (hl:a.length<=4096) :
  z50.j22 lead (a,below)=some (decR (if lead then (0,0,5) else if below&&zeros a then (0,0,5) else (if below then -tv 0 a else tv 0 a,0,0))):=by
 have key:z50.j24 (a,below)=some (decR (if below then -tv 0 a else tv 0 a,0,0)):=by
  unfold z50.j24
  simp only [Z43]
  rw [if_pos (by simp;omega)]
  have et:z4.F a [48]=some (trimL a [48]):=by unfold z4.F;rw [if_pos ⟨by decide,by decide⟩]
  rw [et]
  simp only [Zb]
  have ep:=Qhl ha hl
  have fin:∀x,z37.F x=some (lb (tv 0 a).toNat,0)->z50.j26 x (a,below)=some (decR (if below then -tv 0 a else tv 0 a,0,0)):=λx hx=>by
   unfold z50.j26
   rw [hx]
   simp only [Zb]
   rw [Qh3 _ (Jr ha).1]
   rfl
  by_cases ht:trimL a [48]=[]
  ·rw [if_pos ht] at ep
   rw [bif_t ht];exact fin _ ep
  ·rw [if_neg ht] at ep
   rw [Qc ht];exact fin _ ep
 unfold z50.j22
 simp only [Z43]
 cases lead with
 |true=>simp only [Zd,if_true];rw [Yn]
 |
  false=>
  simp only [Zc]
  rw [if_neg Bool.false_ne_true]
  cases below with
  |false=>simp only [Zc,Z77];rw [key];rfl
  |
   true=>
   obtain ⟨r,t1,t2⟩:=Qic a (by omega)
   simp only [Zd,Z68]
   rw [if_pos (by simp;omega),t1]
   simp only [Zb]
   rw [t2]
   cases hz:zeros a with
   |true=>simp only [Zd,if_true];rw [Yn]
   |false=>simp only [Zc];rw [key];rfl
theorem Qbx {s:J1} (h:plainB s=true):Qx s/\s≠[]:=by
 unfold plainB at h
 rw [Z3] at h
 exact ⟨Jz.1 h.2,by simpa using h.1⟩
theorem Qi1 {a:J1} (hne:a≠[]) {α:Type} (f:Bool->Option α) :
  (bif decide ((a.length:Int)>1) then (if (0:Int)<=(0:Int)/\(0:Int)<(a.length:Int) then f (decide (((a.getD 0 0).toNat:Int)=(48:Int))) else none) else f false)=f (decide (1<a.length)&&decide ((a.getD 0 0).toNat=48)):=by
 have hpos:=Z26.2 hne
 by_cases h:1<a.length
 ·rw [bif_t (by omega),if_pos (by omega),Zt h,Z68]
  congr 1;exact decide_eq_decide.2 (by omega)
 ·rw [Qc (by omega),Zf h,Z77]
theorem dec_Parse (s:J1):z50.F s=some (decR (mDec s)):=by
 unfold z50.F mDec
 by_cases h0:4096<s.length
 ·rw [bif_t (by omega),if_pos h0,Yn]
 ·rw [Qc (by omega),if_neg h0,Qgl]
  simp only [Zb]
  have hlen:=Qh2 s
  generalize cutNeg s=c at *
  obtain ⟨rest,below⟩:=c
  simp only at hlen ⊢
  have hp0:z49.F ([]:J1)=some false:=rfl
  by_cases hdot:([46]:J1)=rest
  ·subst hdot
   rw [bif_t rfl]
   simp only [Z19,List.take_zero,hp0,Zb]
   unfold z50.j4
   simp only [Zo,Zd]
   have:Jy below (cutDot [46]).1 (cutDot [46]).2=(0,0,5):=by simp [cutDot,Jy,plainB]
   rw [this,Yn]
   rfl
  ·rw [Qc hdot,if_pos (by simp)]
   have hi:z2.F rest ((([46]:J1).getD 0 0).toNat:Int)=some (byteIdx rest 46):=rfl
   rw [hi]
   simp only [Zb]
   rw [Qhb]
   cases ho:(cutDot rest).2 with
   |
    none=>
    have ha:=Qgu ho
    rw [if_pos rfl,Qc (by omega),ha,dec_plain _ (by omega)]
    simp only [Zb]
    unfold Jy
    simp only [Option.isSome_none,Z77,Bool.or_false,Option.getD_none,Z43,Z23]
    cases hpl:plainB rest with
    |false=>unfold z50.j22;simp only [Zo,Zd,Bool.true_or,if_true];rw [Yn]
    |
     true=>
     obtain ⟨hd,hne⟩:=Qbx hpl
     simp only [Zn,Zc,Z79]
     rw [Qi1 hne λb=>z50.j22 b (rest,below),Qro hd (by omega)]
     rfl
   |
    some b=>
    have hab:=Qfw ho
    generalize (cutDot rest).1=a at *
    have hl:rest.length=a.length+(b.length+1):=by rw [hab];simp
    have t1:rest.take a.length=a:=by rw [hab];simp
    have t2:rest.drop (a.length+1)=b:=by
     rw [hab,<-Z82];simp
    have e1:(wr .i64 ((a.length:Int)+1))=((a.length+1:Nat):Int):=by rw [Qj (by omega) (by omega)];omega
    rw [if_neg (by simp),bif_t (by omega),if_pos (by omega)]
    simp only [e1,Zi,t1,t2]
    rw [if_pos (by omega),dec_plain a (by omega)]
    simp only [Zb]
    unfold Jy
    simp only [Option.isSome_some,Z68,Z35]
    cases hpl:plainB a with
    |false=>unfold z50.j14;simp only [Zo,Zd,Bool.true_or,if_true];rw [Yn]
    |
     true=>
     obtain ⟨hd,hne⟩:=Qbx hpl
     simp only [Zn,Zc,Z79]
     rw [dec_plain b (by omega)]
     simp only [Zb]
     cases hpb:plainB b with
     |false=>unfold z50.j14;simp only [Zo,Zd,Bool.true_or,if_true];rw [Yn]
     |
      true=>
      obtain ⟨hdb,hneb⟩:=Qbx hpb
      simp only [Zn,Zc,Z79]
      rw [Qi1 hne λx=>z50.j14 x (rest,below) (a.length:Int),Qps t1 t2 hd hdb (by omega)]
abbrev leap (y:Int):Prop:=y%4=0/\¬y%100=0\/y%400=0
abbrev goodY (y:Int):Prop:=1<=y/\y<=9999
def dDays (y m:Int):Int:=if ¬goodY y\/m<1\/12<m then 0 else if m=2 then (if leap y then 29 else 28) else if m=4\/m=6\/m=9\/m=11 then 30 else 31
abbrev right (y m d:Int):Prop:=1<=d/\d<=dDays y m
theorem Qfi {a b:Int} (hb:0<b):Int.tmod a b=0↔a%b=0:=by
 rw [<-Int.dvd_iff_tmod_eq_zero,<-Int.dvd_iff_emod_eq_zero]
theorem date_good (y:Int):z77.F y=some (decide (goodY y)):=by
 unfold z77.F
 by_cases h:y>=1
 ·rw [bif_t h];congr 1;exact decide_eq_decide.2 (by omega)
 ·rw [Qc h];congr 1;symm;exact Zf (by omega)
theorem date_Leap (y:Int):z78.F y=some (decide (goodY y/\leap y)):=by
 unfold z78.F
 rw [date_good]
 simp only [Zb,Qfi (show (0:Int)<4 by decide),Qfi (show (0:Int)<100 by decide),Qfi (show (0:Int)<400 by decide)]
 by_cases h:goodY y
 ·rw [bif_t h]
  by_cases h4:y%4=0
  ·rw [bif_t h4]
   by_cases h1:y%100=0
   ·rw [Zt h1];simp only [Zn,Zc];congr 1;exact decide_eq_decide.2 (by omega)
   ·rw [Zf h1];simp only [Zo,Zd];congr 1;symm;exact Zt (by omega)
  ·rw [Qc h4];congr 1;exact decide_eq_decide.2 (by omega)
 ·rw [Qc h];congr 1;symm;exact Zf (λhh=>h hh.1)
theorem date_Days (y m:Int):z79.F y m=some (dDays y m):=by
 unfold z79.F dDays
 rw [date_good]
 simp only [Zb]
 by_cases hy:goodY y
 ·rw [Zt hy]
  simp only [Zn,Zc]
  by_cases h1:m<1
  ·rw [bif_t h1,if_pos (by omega)]
  ·rw [Qc h1]
   by_cases h12:m>12
   ·rw [bif_t h12,if_pos (by omega)]
   ·rw [Qc h12,if_neg (by omega)]
    by_cases h2:m=2
    ·subst h2
     rw [bif_t rfl,if_pos rfl,date_Leap]
     simp only [Zb]
     by_cases hl:leap y
     ·rw [Zt ⟨hy,hl⟩,if_pos hl];rfl
     ·rw [Zf (λhh=>hl hh.2),if_neg hl];rfl
    ·rw [Qc h2,if_neg h2]
     have:m=1\/m=3\/m=4\/m=5\/m=6\/m=7\/m=8\/m=9\/m=10\/m=11\/m=12:=by omega
     rcases this with rfl|rfl|rfl|rfl|rfl|rfl|rfl|rfl|rfl|rfl|rfl<;>rfl
 ·rw [Zf hy,if_pos (.inl hy)];rfl
theorem Qmx (y m:Int):0<=dDays y m/\dDays y m<=31:=by
 unfold dDays;split
 ·omega
 ·split
  ·split<;>omega
  ·split<;>omega
theorem Qd0 {y m d:Int} (h:right y m d):goodY y/\1<=m/\m<=12/\1<=d/\d<=31:=by
 have h1:=h.2
 have h2:=Qmx y m
 unfold dDays at h1
 split at h1
 ·have:=h.1;omega
 ·rename_i hn
  have:=h.1
  refine ⟨by omega,by omega,by omega,by omega,by omega⟩
theorem date_Check (y m d:Int):z80.F y m d=some (if right y m d then 0 else 11):=by
 unfold z80.F
 rw [date_Days]
 simp only [Zb]
 by_cases h:d<1
 ·rw [bif_t h,if_neg (by omega)]
 ·rw [Qc h]
  by_cases h':d>dDays y m
  ·rw [bif_t h',if_neg (by omega)]
  ·rw [Qc h',if_pos (by omega)]
def dcmp (a b c a' b' c':Int):Int:=if a<a' then -1 else if a'<a then 1 else if b<b' then -1 else if b'<b then 1 else if c<c' then -1 else if c'<c then 1 else 0
theorem or3 (x y z:Int):z73.F [x,y,z]=some (if x≠0 then x else if y≠0 then y else z):=by
 have e0:wr .i64 (0+1)=1:=by decide
 have e1:wr .i64 (1+1)=2:=by decide
 have e2:wr .i64 (2+1)=3:=by decide
 have r3:Runs (λrec i=>z73.l0P 0 [x,y,z] 3 rec some i) 3 (.inl 3):=.done λrec=>by unfold z73.l0P;rw [Qc (by decide)]
 have r2:Runs (λrec i=>z73.l0P 0 [x,y,z] 3 rec some i) 2 (if z≠0 then .inr z else .inl 3):=by
  by_cases h:z=0
  ·rw [if_neg (by omega)]
   refine .step (λrec=>?_) r3
   unfold z73.l0P
   rw [bif_t (by decide),if_pos (by simp),show [x,y,z].getD (Int.toNat 2) 0=z from rfl,Zt h,e2];rfl
  ·rw [if_pos h]
   refine .done λrec=>?_
   unfold z73.l0P
   rw [bif_t (by decide),if_pos (by simp),show [x,y,z].getD (Int.toNat 2) 0=z from rfl,Zf h];rfl
 have r1:Runs (λrec i=>z73.l0P 0 [x,y,z] 3 rec some i) 1 (if y≠0 then .inr y else if z≠0 then .inr z else .inl 3):=by
  by_cases h:y=0
  ·rw [if_neg (by omega)]
   refine .step (λrec=>?_) r2
   unfold z73.l0P
   rw [bif_t (by decide),if_pos (by simp),show [x,y,z].getD (Int.toNat 1) 0=y from rfl,Zt h,e1];rfl
  ·rw [if_pos h]
   refine .done λrec=>?_
   unfold z73.l0P
   rw [bif_t (by decide),if_pos (by simp),show [x,y,z].getD (Int.toNat 1) 0=y from rfl,Zf h];rfl
 have r0:Runs (λrec i=>z73.l0P 0 [x,y,z] 3 rec some i) 0 (if x≠0 then .inr x else if y≠0 then .inr y else if z≠0 then .inr z else .inl 3):=by
  by_cases h:x=0
  ·rw [if_neg (by omega)]
   refine .step (λrec=>?_) r1
   unfold z73.l0P
   rw [bif_t (by decide),if_pos (by simp),show [x,y,z].getD (Int.toNat 0) 0=x from rfl,Zt h,e0];rfl
  ·rw [if_pos h]
   refine .done λrec=>?_
   unfold z73.l0P
   rw [bif_t (by decide),if_pos (by simp),show [x,y,z].getD (Int.toNat 0) 0=x from rfl,Zf h];rfl
 have e:z73.l0 0 [x,y,z] 3 0=_:=r0.lfp
 unfold z73.F
 show ((z73.l0 0 [x,y,z] 3 0).bind _)=_
 rw [e]
 simp only [Zb]
 by_cases hx:x=0<;>by_cases hy:y=0<;>by_cases hz:z=0<;>simp [hx,hy,hz]
theorem date_Cmp (a b c a' b' c':Int):z74.F a b c a' b' c'=some (dcmp a b c a' b' c'):=by
 unfold z74.F
 rw [Qbt]
 simp only [Zb]
 rw [Qbt]
 simp only [Zb]
 rw [Qbt]
 simp only [Zb]
 rw [or3]
 simp only [Zb]
 congr 1
 unfold cmpI dcmp
 rcases Int.lt_trichotomy a a' with h|h|h<;>rcases Int.lt_trichotomy b b' with g|g|g<;>rcases Int.lt_trichotomy c c' with k|k|k <;>
  (repeat' split)<;>omega
theorem Qle {s:J1} (h:Qx s):sz (tv 0 s).toNat<=s.length:=Q4 (by have:=Jr h;omega)
theorem Qmr (s:J1):sz (mDigits s).1<=4096:=by
 have h0:sz 0<=4096:=by rw [Qgq];omega
 unfold mDigits
 split
 ·exact h0
 ·split
  ·rename_i h1 h2
   unfold numOK at h2
   simp only [Z3] at h2
   have:=Qle (Jz.1 h2.1.2)
   show sz (tv 0 s).toNat<=4096
   omega
  ·exact h0
theorem Qne (s:J1):sz (mWhole s).1.natAbs<=4096:=by
 have h:=Qmr (cutNeg s).1
 have h0:sz 0<=4096:=by rw [Qgq];omega
 unfold mWhole
 split
 ·exact h0
 ·split
  ·exact h0
  ·show sz (if _ then _ else _:Int).natAbs<=_
   split
   ·rw [Int.natAbs_neg];exact h
   ·exact h
def mMoney (s:J1):Int×Int:=
 if (mWhole s).2≠0 then (0,(mWhole s).2) else if (mWhole s).1<0\/10^30<(mWhole s).1 then (0,19) else ((mWhole s).1,0)
theorem terms_greatest:z46.F=some (lb (Int.natAbs (10^30)),neg (10^30)):=by
 unfold z46.F
 have h:=digits_Ten (t:=30) (by decide)
 rw [show ((30:Nat):Int)=30 from rfl] at h
 rw [h]
 simp only [Zb]
 rw [Ya (z:=10^30) (by decide) (.inr ⟨rfl,by decide⟩)]
 rfl
theorem terms_Money (s:J1):z47.F s=some (lb (mMoney s).1.natAbs,neg (mMoney s).1,(mMoney s).2):=by
 have hz:=Qne s
 unfold z47.F mMoney
 rw [whole_Parse]
 simp only [Zb]
 generalize mWhole s=w at *
 have hn:lb (Int.natAbs 0)=[]:=lb_zero
 by_cases h:w.2=0
 ·rw [Zt h,if_neg (by omega)]
  simp only [Zn,Zc]
  rw [Qal]
  simp only [Zb]
  by_cases h1:w.1<0
  ·rw [bif_t (Qc7.2 h1),if_pos (.inl h1),hn];rfl
  ·rw [Qc (λh=>h1 (Qc7.1 h)),terms_greatest]
   simp only [Zb]
   have l1:=Q1 w.1.natAbs
   have l2:(lb (Int.natAbs (10^30))).length<=31:=Z41 (Q1 _) (Q4 (by decide))
   have l3:sz w.1.natAbs<=4096:=hz
   rw [Qlp (by omega)]
   simp only [Zb]
   by_cases h2:10^30<w.1
   ·rw [bif_t (Qcj.2 h2),if_pos (.inr h2),hn];rfl
   ·rw [Qc (λh=>h2 (Qcj.1 h)),if_neg (by omega)]
 ·rw [Zf h,if_pos h,hn];rfl
theorem Qk7 (s:J1):(mDec s).2.1<=64/\sz (mDec s).1.natAbs<=4096:=by
 have h0:sz (Int.natAbs 0)<=4096:=by show sz 0<=4096;rw [Qgq];omega
 unfold mDec
 split
 ·exact ⟨Z50 _,h0⟩
 ·rename_i hl
  have hc:=Qh2 s
  generalize (cutNeg s).1=t at *
  unfold Jy
  split
  ·exact ⟨Z50 _,h0⟩
  ·rename_i hp
   split
   ·exact ⟨Z50 _,h0⟩
   ·split
    ·exact ⟨Z50 _,h0⟩
    ·rename_i h64
     refine ⟨by show List.length _<=64;omega,?_⟩
     have hd:Qx ((cutDot t).1++(cutDot t).2.getD [])/\((cutDot t).1++(cutDot t).2.getD []).length<=4096:=by
      simp only [Z57,not_or,Z52,Bool.not_eq_false,Z3] at hp
      obtain ⟨⟨p1,p2⟩,p3⟩:=hp
      have q1:=(Qbx (by simpa using p1)).1
      cases ho:(cutDot t).2 with
      |
       none=>
       have:=Qgu ho
       simp only [Option.getD_none,Z43]
       exact ⟨q1,by rw [this];omega⟩
      |
       some b=>
       have:=Qfw ho
       rw [ho] at p2
       have q2:=(Qbx (s:=b) (by simpa using p2)).1
       simp only [Z35]
       refine ⟨λx hx=>(Z47.1 hx).elim (q1 x) (q2 x),?_⟩
       have hlen:t.length=(cutDot t).1.length+(b.length+1):=by
        conv=>lhs;rw [this]
        simp
       rw [Z8];omega
     have h1:=Z41 (Qle hd.1) hd.2
     have h2:=(Jr hd.1).1
     show sz (if _ then _ else _:Int).natAbs<=_
     have e:∀z:Int,0<=z->z.natAbs=z.toNat:=λz hz=>by omega
     split
     ·rw [Int.natAbs_neg,e _ h2];exact h1
     ·rw [e _ h2];exact h1
theorem dec_ten {t:Nat} (ht:t<=4096):z56.F (t:Int)=some (lb (10^t:Nat),false):=by
 unfold z56.F
 rw [digits_Ten ht]
 simp only [Zb]
 rw [whole_Of];rfl
theorem Qip {t:Nat} (ht:t<=4096):z56.F (t:Int)=some (lb ((10^t:Nat):Int).natAbs,neg ((10^t:Nat):Int)):=by
 rw [dec_ten ht]
 have:neg ((10^t:Nat):Int)=false:=Zf (Int.not_lt.2 (Int.natCast_nonneg _))
 rw [this];rfl
theorem Qc3 (t:Nat):sz (10^t)<=t+1:=Q4 (by rw [Z45];have:0<10^t:=Nat.pow_pos (by decide);omega)
theorem Qjx {c:Int} {s t:Nat} (h:s<=t) (ht:t<=4096) (hc:sz c.natAbs<=100000000):z58.F (lb c.natAbs) (neg c) (s:Int) (t:Int)=some (lb (c*(10^(t-s):Nat)).natAbs,neg (c*(10^(t-s):Nat))):=by
 have l1:=Q1 c.natAbs
 have l2:=Q1 ((10^(t-s):Nat):Int).natAbs
 have l3:=Qc3 (t-s)
 have l4:sz ((10^(t-s):Nat):Int).natAbs=sz (10^(t-s)):=rfl
 unfold z58.F
 rw [Qj (by omega) (by omega),show (t:Int)-s=((t-s:Nat):Int) by omega,Qip (by omega)]
 simp only [Zb]
 rw [Qe7 (by omega)]
 rfl
theorem Qn6 {c c':Int} {s s':Nat} (hs:s<=2000) (hs':s'<=2000) (hc:sz c.natAbs<=100000000) (hc':sz c'.natAbs<=100000000) :
  z59.F (lb c.natAbs) (neg c) (s:Int) (lb c'.natAbs) (neg c') (s':Int)=some (cmpI (c*(10^(max s s'-s):Nat)) (c'*(10^(max s s'-s'):Nat))):=by
 have e:(if (s':Int)>(s:Int) then (s':Int) else (s:Int))=((max s s':Nat):Int):=by split<;>omega
 have m1:=Qa4 c.natAbs (10^(max s s'-s))
 have m2:=Qa4 c'.natAbs (10^(max s s'-s'))
 have t1:=Qc3 (max s s'-s)
 have t2:=Qc3 (max s s'-s')
 have l1:=Q1 (c*(10^(max s s'-s):Nat)).natAbs
 have l2:=Q1 (c'*(10^(max s s'-s'):Nat)).natAbs
 have e1:(c*(10^(max s s'-s):Nat)).natAbs=c.natAbs*10^(max s s'-s):=by rw [Int.natAbs_mul];rfl
 have e2:(c'*(10^(max s s'-s'):Nat)).natAbs=c'.natAbs*10^(max s s'-s'):=by rw [Int.natAbs_mul];rfl
 have hc1:sz c.natAbs<=100000000:=hc
 have hc2:sz c'.natAbs<=100000000:=hc'
 rw [<-e1] at m1
 rw [<-e2] at m2
 unfold z59.F
 rw [e,Qjx (by omega) (by omega) hc]
 simp only [Zb]
 rw [Qjx (by omega) (by omega) hc']
 simp only [Zb]
 rw [Qlp (by omega)]
 rfl
theorem Qob (n:Int) {d:Nat} (hd:0<d):(mkRat n d).num.natAbs<=n.natAbs:=by
 rw [Rat.num_mkRat,if_neg (by omega),Nat.gcd_comm]
 have hg:0<Nat.gcd n.natAbs d:=Nat.gcd_pos_of_pos_right _ hd
 rw [(Qjf (Nat.gcd_dvd_left n.natAbs d) hg).1]
 exact Nat.div_le_self _ _
theorem Qqh (n:Int) {d:Nat} (hd:0<d):(mkRat n d).den<=d:=by
 rw [Rat.den_mkRat,if_neg (by omega)]
 exact Nat.div_le_self _ _
theorem Qsf {M:Nat} (hD:Qai M) {c:Int} {s:Nat} (hs:s<=4096) (hc:c.natAbs<=M) (hM:10^s<=M):z64.F (lb c.natAbs) (neg c) (s:Int)=some (fr (mkRat c (10^s))):=by
 have hp:0<10^s:=Nat.pow_pos (by decide)
 have l:=Qc3 s
 unfold z64.F
 rw [Qip hs]
 simp only [Zb]
 rw [frac_Of (num:=c) (den:=((10^s:Nat):Int)) hD (by exact_mod_cast (Nat.ne_of_gt hp)) hc (by show 10^s<=M;exact hM) (by show sz (10^s)<=_;omega),Rat.divInt_ofNat]
 rfl
def Qae (s:J1):Rat×Int:=
 if (mDec s).2.2≠0 then (0,(mDec s).2.2)
 else if (mDec s).1<0\/1000*(10^(mDec s).2.1:Nat)<(mDec s).1\/12<(mDec s).2.1 then (0,18)
 else (mkRat (mDec s).1 (10^(mDec s).2.1)/100,0)
theorem Qqi:fr 0=([],false,[]):=by
 show (lb 0,neg 0,lb 0)=_
 rw [lb_zero];rfl
theorem Qdu (e:Int):some (([]:J0),false,([]:J0),e)=some ((fr (0:Rat)).1,(fr (0:Rat)).2.1,(fr (0:Rat)).2.2,e):=by
 rw [Qqi]
theorem Ql8:fr 100=(lb (Int.natAbs 100),neg 100,[]):=by
 show (lb 100,neg 100,lb 0)=_
 rw [lb_zero];rfl
theorem Qlh:Qai 1000000000000000000:=λx y hx hy h0=>Qn5 (by omega) h0
theorem terms_Rate (s:J1):z69.F s=some ((fr (Qae s).1).1,(fr (Qae s).1).2.1,(fr (Qae s).1).2.2,(Qae s).2):=by
 obtain ⟨hb1,hb2⟩:=Qk7 s
 unfold z69.F Qae
 rw [dec_Parse]
 simp only [Zb,decR]
 generalize mDec s=d at *
 obtain ⟨c,sc,e⟩:=d
 simp only at *
 have hcz:sz c.natAbs<=4096:=hb2
 by_cases h:e=0
 ·rw [Zt h,if_neg (by omega)]
  simp only [Zn,Zc]
  rw [whole_From (by omega)]
  simp only [Zb]
  have ho:z52.F (lb (Int.natAbs 1000)) (neg 1000) 0=some (lb (Int.natAbs 1000),neg 1000,0,0):=rfl
  rw [ho]
  simp only [Zb]
  unfold z54.F z53.F
  simp only [Zb]
  rw [Qal]
  simp only [Zb]
  by_cases h1:c<0
  ·rw [bif_t (Qc7.2 h1),if_pos (.inl h1)];exact Qdu 18
  ·rw [Qc (λh=>h1 (Qc7.1 h))]
   have hk:sz (Int.natAbs 1000)<=4:=Q4 (by decide)
   have hcmp:=Qn6 (c:=c) (c':=1000) (s:=sc) (s':=0) (by omega) (by omega) (by omega) (by omega)
   rw [show ((0:Nat):Int)=0 from rfl] at hcmp
   rw [hcmp]
   simp only [Zb,Nat.max_zero,Nat.sub_self,Nat.pow_zero,Nat.sub_zero,Int.natCast_one,Int.mul_one]
   by_cases h2:1000*((10^sc:Nat):Int)<c
   ·rw [bif_t (Qcj.2 h2),if_pos (.inr (.inl h2))];exact Qdu 18
   ·rw [Qc (λh=>h2 (Qcj.1 h))]
    by_cases h3:12<sc
    ·rw [bif_t (by omega),if_pos (.inr (.inr h3))];exact Qdu 18
    ·rw [Qc (by omega),if_neg (by omega)]
     have hp12:10^sc<=10^12:=Z60 (by decide) (by omega)
     have hp0:0<10^sc:=Nat.pow_pos (by decide)
     have n1:=Qob c hp0
     have n2:=Qqh c hp0
     have hd0:=(mkRat c (10^sc)).den_pos
     unfold z69.j8
     rw [Qsf Qlh (by omega) (by omega) (by omega)]
     simp only [Zb]
     rw [whole_From (by omega)]
     simp only [Zb]
     have hf:z68.F (lb (Int.natAbs 100)) (neg 100)=some (fr 100):=by rw [Ql8];rfl
     rw [hf]
     simp only [Zb]
     generalize mkRat c (10^sc)=q at *
     have hq:=Qrz Qlh (q:=q) (r:=100) (by decide)
      (by rw [show (100:Rat).den=1 from rfl];simp;omega)
      (by rw [show (100:Rat).num=100 from rfl,Int.natAbs_mul];show q.den*100<=_;omega)
      (by
        rw [show (100:Rat).den=1 from rfl]
        have a1:sz q.num.natAbs<=20:=Q4 (by omega)
        have a2:sz 1<=1:=Q4 (by decide)
        omega)
      (by
        rw [show (100:Rat).num=100 from rfl]
        have a1:sz q.den<=20:=Q4 (by omega)
        have a2:sz (Int.natAbs 100)<=3:=Q4 (by decide)
        omega)
     rw [hq]
     rfl
 ·rw [Zf h,if_pos h];exact Qdu e
theorem Qn9 (n:Nat):numOK (txt n)=true:=by
 unfold numOK
 rw [Zf (Qo0 n),Jz.2 (J5 n)]
 by_cases h:n=0
 ·subst h;rfl
 ·obtain ⟨b,s,e,hb⟩:=Qla h
  rw [e]
  have:((b::s).getD 0 0).toNat=b.toNat:=rfl
  rw [this,Zf hb];simp
theorem Qfg {s:J1} (h:Qx s):cutNeg s=(s,false):=by
 unfold cutNeg
 cases s with
 |nil=>rfl
 |
  cons b t=>
  have hb:=h b (by simp)
  unfold digit at hb
  simp only
  rw [if_neg]
  rintro rfl
  simp at hb
theorem Qji {n:Nat} (h:(txt n).length<=4096):mWhole (txt n)=((n:Int),0):=by
 have hd:mDigits (txt n)=(n,0):=by
  unfold mDigits
  rw [if_neg (by omega),if_pos (Qn9 n),Qjc,Zi]
 unfold mWhole
 rw [Qfg (J5 n)]
 simp only [hd]
 rw [if_neg (by simp),if_neg (by simp)]
 rfl
def padded (n k:Nat):J1:=List.replicate (k+1-(txt n).length) 48++txt n
theorem Qb2 (n k:Nat):k<(padded n k).length/\(padded n k).length<=k+1+(txt n).length:=by unfold padded;rw [Z8,List.length_replicate];omega
theorem Qk3 (n k:Nat):Qx (padded n k):=λb hb=>by
 rcases Z47.1 hb with h|h
 ·rw [List.eq_of_mem_replicate h];unfold digit;decide
 ·exact J5 n b h
theorem Qoy (f:Nat) (s:J1):tv 0 (List.replicate f 48++s)=tv 0 s:=by
 induction f with
 |zero=>rfl
 |succ f ih=>rw [List.replicate_succ,List.cons_append];exact ih
theorem Qo6 (n k:Nat):tv 0 (padded n k)=n:=by unfold padded;rw [Qoy,Qjc]
def decTxt (n k:Nat):J1:=(padded n k).take ((padded n k).length-k)++46::(padded n k).drop ((padded n k).length-k)
theorem Qi6:∀{a:J1} (b:J1),Qx a->cutDot (a++46::b)=(a,some b)
 |[],b,_=>rfl
 |
  x::a,b,h=>by
  have hx:=h x (by simp)
  have ih:=Qi6 (a:=a) b λy hy=>h y (by simp [hy])
  show cutDot (x::(a++46::b))=_
  unfold cutDot
  rw [if_neg (by rintro rfl;unfold digit at hx;simp at hx),ih]
theorem Qly {n k:Nat} (hk:0<k/\k<=64) (hl:(txt n).length<=1000):mDec (decTxt n k)=((n:Int),k,0):=by
 have pl:=Qb2 n k
 have pd:=Qk3 n k
 have hda:Qx ((padded n k).take ((padded n k).length-k)):=λb hb=>pd b (Z59 hb)
 have hdb:Qx ((padded n k).drop ((padded n k).length-k)):=λb hb=>pd b (Z72 hb)
 have la:((padded n k).take ((padded n k).length-k)).length=(padded n k).length-k:=by rw [Z14];omega
 have lb':((padded n k).drop ((padded n k).length-k)).length=k:=by rw [Z17];omega
 have hcat:(padded n k).take ((padded n k).length-k)++(padded n k).drop ((padded n k).length-k)=padded n k:=List.take_append_drop _ _
 have hlead:(decide (1<((padded n k).take ((padded n k).length-k)).length)&&decide ((((padded n k).take ((padded n k).length-k)).getD 0 0).toNat=48))=false:=by
  by_cases h1:1<((padded n k).take ((padded n k).length-k)).length
  ·rw [la] at h1
   have h2:k+1<(padded n k).length:=by omega
   have h0:k+1-(txt n).length=0:=by
    unfold padded at h2
    rw [Z8,List.length_replicate] at h2;omega
   have e:padded n k=txt n:=by unfold padded;rw [h0];rfl
   have hn:n≠0:=by
    rintro rfl
    rw [e] at h2
    have:(txt 0).length=1:=rfl
    omega
   obtain ⟨b,s,ht,hb⟩:=Qla hn
   rw [e,ht]
   have:(((b::s).take ((b::s).length-k)).getD 0 0).toNat=b.toNat:=by
    rw [e,ht] at h2
    have:(b::s).length-k=((b::s).length-k-1)+1:=by omega
    rw [this,List.take_succ_cons];rfl
   rw [this,Zf hb,Bool.and_false]
  ·rw [Zf h1,Z77]
 have hlen:(decTxt n k).length=(padded n k).length+1:=by
  unfold decTxt;rw [Z8,Z6,la,lb'];omega
 have hneg:cutNeg (decTxt n k)=(decTxt n k,false):=by
  have hne:(padded n k).take ((padded n k).length-k)≠[]:=λh=>by rw [h] at la;simp at la;omega
  unfold decTxt
  cases hc:(padded n k).take ((padded n k).length-k) with
  |nil=>exact absurd hc hne
  |
   cons b t=>
   have hb:=hda b (by rw [hc];simp)
   unfold digit at hb
   unfold cutNeg
   simp only [List.cons_append]
   rw [if_neg (by rintro rfl;simp at hb)]
 have hpa:plainB ((padded n k).take ((padded n k).length-k))=true:=by
  unfold plainB;rw [Jz.2 hda,Zf (λh=>by rw [h] at la;simp at la;omega)];rfl
 have hpb:plainB ((padded n k).drop ((padded n k).length-k))=true:=by
  unfold plainB;rw [Jz.2 hdb,Zf (λh=>by rw [h] at lb';simp at lb';omega)];rfl
 unfold mDec
 rw [if_neg (by omega),hneg]
 have hcut:cutDot (decTxt n k)=((padded n k).take ((padded n k).length-k),some ((padded n k).drop ((padded n k).length-k))):=Qi6 _ hda
 rw [hcut]
 unfold Jy
 simp only [Option.isSome_some,Z68,Z35,hpa,hpb,hlead,Zn,Bool.or_false,Z77]
 rw [if_neg (by simp),if_neg (by simp),if_neg (by omega),hcat,Qo6,lb',if_neg (by simp)]
theorem Qjd {s:J0} {i:Nat} {x:Int}:(s.set i x).drop (i+1)=s.drop (i+1):=by
 apply List.ext_getElem?
 intro j
 rw [List.getElem?_drop,List.getElem?_drop,List.getElem?_set_ne (by omega)]
set_option maxRecDepth 100000 in
theorem Qrd:∃tab:J1,tab.length=256 /\
  (∀x j,z17.j8 x j=if (0:Int)<=wr .u8 x/\wr .u8 x<(tab.length:Int) then some (wr .i64 (j+wr .i64 ((tab.getD (wr .u8 x).toNat 0).toNat:Int))) else none) /\
  (∀x j,z17.j10 x j=if (0:Int)<=wr .u8 x/\wr .u8 x<(tab.length:Int) then some (wr .i64 (j+wr .i64 ((tab.getD (wr .u8 x).toNat 0).toNat:Int))) else none) /\
  ∀x:Fin 256,0<x.1->1<=(tab.getD x.1 0).toNat/\(tab.getD x.1 0).toNat<=8/\2^((tab.getD x.1 0).toNat-1)<=x.1/\x.1<2^(tab.getD x.1 0).toNat:=
 ⟨_,rfl,λx j=>rfl,λx j=>rfl,by decide⟩
theorem Qb8 {x:Nat} (h0:0<x) (h:x<256) {j:Nat} (hj:j<=1000):∃n,n<=7/\2^n<=x/\x<2^(n+1)/\z17.j8 x j=some ((j+n+1:Nat):Int)/\z17.j10 x j=some ((j+n+1:Nat):Int):=by
 obtain ⟨tab,hl,h1,h2,ht⟩:=Qrd
 obtain ⟨t1,t2,t3,t4⟩:=ht ⟨x,h⟩ h0
 simp only at t1 t2 t3 t4
 obtain ⟨n,hn⟩:∃n,(tab.getD x 0).toNat=n+1:=⟨_,(Nat.sub_add_cancel t1).symm⟩
 rw [hn] at t2 t3 t4
 have hw:wr .u8 (x:Int)=x:=Qb3 (by omega) (by omega)
 refine ⟨n,by omega,by simpa using t3,t4,?_,?_⟩
 ·rw [h1,hw,if_pos (by omega),Zi,hn,Qj (n:=((n+1:Nat):Int)) (by omega) (by omega),Qj (by omega) (by omega)]
  congr 1
 ·rw [h2,hw,if_pos (by omega),Zi,hn,Qj (n:=((n+1:Nat):Int)) (by omega) (by omega),Qj (by omega) (by omega)]
  congr 1
theorem Qao (n k:Nat):Int.fdiv (n:Int) (2^k)=((n/2^k:Nat):Int):=by
 rw [Int.fdiv_eq_ediv_of_nonneg _ (by exact_mod_cast Z50 (2^k))]
 push_cast;rfl
theorem Qbe {x n k:Nat} (h1:2^n<=x/2^k) (h2:x/2^k<2^(n+1)):2^(n+k)<=x/\x<2^(n+k+1):=by
 have hp:=Nat.pos_of_ne_zero (show 2^k≠0 by exact Nat.ne_of_gt (Nat.two_pow_pos k))
 have:=(Nat.le_div_iff_mul_le hp).1 h1
 have:=(Z71 hp).1 h2
 rw [Z83,show n+k+1=(n+1)+k by omega,Z83]
 omega
set_option maxRecDepth 100000 in
theorem Qhk {x:Nat} (h0:0<x) (h:x<4294967296) {j:Nat} (hj:j<=100):∃n,n<=31/\2^n<=x/\x<2^(n+1)/\z17.j2 x j=some ((j+n+1:Nat):Int):=by
 unfold z17.j2
 rw [show min 16 64=16 from rfl,show min 8 64=8 from rfl,Qao,Qao,Qao]
 by_cases h1:65536<=x
 ·rw [bif_t (by omega),Qj (n:=(j:Int)+16) (by omega) (by omega),Qj (n:=(j:Int)+16+8) (by omega) (by omega)]
  have b1:0<x/2^16/\x/2^16<65536:=by omega
  by_cases h2:256<=x/2^16
  ·rw [bif_t (by omega)]
   obtain ⟨n,n1,n2,n3,n4,_⟩:=Qb8 (x:=x/2^16/2^8) (by omega) (by omega) (j:=j+24) (by omega)
   obtain ⟨m2,m3⟩:=Qbe n2 n3
   obtain ⟨m2,m3⟩:=Qbe (n:=n+8) m2 m3
   refine ⟨n+8+16,by omega,m2,m3,?_⟩
   refine (congrArg (z17.j8 _) (show ((j:Int)+16+8)=((j+24:Nat):Int) by omega)).trans (n4.trans ?_)
   congr 2;omega
  ·rw [Qc (by omega)]
   obtain ⟨n,n1,n2,n3,n4,_⟩:=Qb8 (x:=x/2^16) (by omega) (by omega) (j:=j+16) (by omega)
   obtain ⟨m2,m3⟩:=Qbe n2 n3
   refine ⟨n+16,by omega,m2,m3,?_⟩
   refine (congrArg (z17.j8 _) (show ((j:Int)+16)=((j+16:Nat):Int) by omega)).trans (n4.trans ?_)
   congr 2;omega
 ·rw [Qc (by omega)]
  by_cases h2:256<=x
  ·rw [bif_t (by omega),Qj (n:=(j:Int)+8) (by omega) (by omega)]
   obtain ⟨n,n1,n2,n3,_,n4⟩:=Qb8 (x:=x/2^8) (by omega) (by omega) (j:=j+8) (by omega)
   obtain ⟨m2,m3⟩:=Qbe n2 n3
   refine ⟨n+8,by omega,m2,m3,?_⟩
   refine (congrArg (z17.j10 _) (show ((j:Int)+8)=((j+8:Nat):Int) by omega)).trans (n4.trans ?_)
   congr 2;omega
  ·rw [Qc (by omega)]
   obtain ⟨n,n1,n2,n3,_,n4⟩:=Qb8 (x:=x) (by omega) (by omega) (j:=j) (by omega)
   exact ⟨n,by omega,n2,n3,n4⟩
theorem bits_Len64 {x:Nat} (h0:0<x) (h:x<18446744073709551616):∃n,n<=63/\2^n<=x/\x<2^(n+1)/\z17.F x=some ((n+1:Nat):Int):=by
 unfold z17.F
 rw [show min 32 64=32 from rfl,Qao]
 by_cases h1:4294967296<=x
 ·rw [bif_t (by omega)]
  obtain ⟨n,n1,n2,n3,n4⟩:=Qhk (x:=x/2^32) (by omega) (by omega) (j:=32) (by omega)
  obtain ⟨m2,m3⟩:=Qbe n2 n3
  refine ⟨n+32,by omega,m2,m3,?_⟩
  refine n4.trans ?_
  congr 2;omega
 ·rw [Qc (by omega)]
  obtain ⟨n,n1,n2,n3,n4⟩:=Qhk (x:=x) (by omega) (by omega) (j:=0) (by omega)
  refine ⟨n,by omega,n2,n3,?_⟩
  refine n4.trans ?_
  congr 2;omega
theorem Qm0 {x:Nat} (h0:0<x) (h:x<18446744073709551616):∃s,s<=63/\9223372036854775808<=x*2^s/\x*2^s<18446744073709551616/\z18.F x=some ((s:Nat):Int):=by
 obtain ⟨n,n1,n2,n3,n4⟩:=bits_Len64 h0 h
 have e1:2^n*2^(63-n)=9223372036854775808:=by rw [<-Z83,show n+(63-n)=63 by omega]
 have e2:2^(n+1)*2^(63-n)=18446744073709551616:=by rw [<-Z83,show n+1+(63-n)=64 by omega]
 refine ⟨63-n,by omega,?_,?_,?_⟩
 ·rw [<-e1];exact Z22 _ n2
 ·rw [<-e2];exact Nat.mul_lt_mul_of_pos_right n3 (Nat.two_pow_pos _)
 ·unfold z18.F
  rw [n4]
  simp only [Zb]
  rw [Qj (by omega) (by omega)]
  congr 1;omega
end Go.Proofs.YtjfipepaaddlmaaGreatDoor.A
end
section
set_option linter.unusedSectionVars false
namespace Go.Proofs.YtjfipepaaddlmaaGreatDoor.A
open Go
structure Qbi (y1 y0 u u0:Nat) (q r:Nat):Prop where
 eq:q*y1+r=u
 ge:(u*4294967296+u0)/(y1*4294967296+y0)<=q
 le:q<=4294967297
 lt:r<4294967296
theorem Qlw (B:Nat) {y1 y0 u q r:Nat} (he:q*y1+r=u):q*(y1*B+y0)+r*B=u*B+q*y0:=by
 rw [<-he,Z30,Nat.mul_add,Z80]
 omega
theorem Qss {B A A2 u u0 r:Nat} (h:A+r*B=u*B+A2) (hc:r*B+u0<A2):u*B+u0<A:=by omega
section
variable {y1 y0 u u0:Nat} (h1:2147483648<=y1) (h1':y1<4294967296) (h0:y0<4294967296) (hu:u<y1*4294967296+y0) (hu0:u0<4294967296)
include h1 h1' h0 hu hu0
theorem Ql3:Qbi y1 y0 u u0 (u/y1) (u%y1):=by
 have hy:0<y1:=by omega
 refine ⟨by rw [Z44];exact Z58 u y1,?_,?_,?_⟩
 ·rw [Nat.le_div_iff_mul_le hy]
  have hd:=Nat.div_mul_le_self (u*4294967296+u0) (y1*4294967296+y0)
  generalize (u*4294967296+u0)/(y1*4294967296+y0)=Q at *
  rw [Nat.mul_add,<-Z80] at hd
  generalize Q*y1=A at *
  generalize Q*y0=B at *
  omega
 ·have:u/y1<4294967298:=by
   rw [Z71 hy];omega
  omega
 ·have:=Z81 u hy;omega
theorem Qsv:(u*4294967296+u0)/(y1*4294967296+y0)<4294967296:=by
 rw [Z71 (by omega)];omega
theorem Qmd {q r:Nat} (h:Qbi y1 y0 u u0 q r) (hc:4294967296<=q\/r*4294967296+u0<q*y0):(u*4294967296+u0)/(y1*4294967296+y0)<q:=by
 rcases hc with hc|hc
 ·exact Z11 (Qsv h1 h1' h0 hu hu0) hc
 ·have:=Qlw 4294967296 (y0:=y0) h.eq
  have hlt:u*4294967296+u0<q*(y1*4294967296+y0):=Qss this hc
  exact (Z71 (show 0<y1*4294967296+y0 by omega)).2 hlt
theorem Qlc {q r:Nat} (he:q*y1+r=u) (ge:(u*4294967296+u0)/(y1*4294967296+y0)<=q) (hc:q*y0<=r*4294967296+u0):q=(u*4294967296+u0)/(y1*4294967296+y0):=by
 refine Nat.le_antisymm ?_ ge
 rw [Nat.le_div_iff_mul_le (by omega)]
 have:=Qlw 4294967296 (y0:=y0) he
 omega
theorem Qg0 {q r:Nat} (h:Qbi y1 y0 u u0 q r) (hc:(u*4294967296+u0)/(y1*4294967296+y0)<q):(q-1)*y1+(r+y1)=u/\(u*4294967296+u0)/(y1*4294967296+y0)<=q-1:=by
 generalize (u*4294967296+u0)/(y1*4294967296+y0)=Q at hc ⊢
 obtain ⟨k,rfl⟩:∃k,q=k+1:=⟨q-1,by omega⟩
 have:=h.eq
 rw [Z30] at this
 simp only [Nat.add_sub_cancel]
 omega
theorem Qpz {q r:Nat} (h:Qbi y1 y0 u u0 q r) (hc:(u*4294967296+u0)/(y1*4294967296+y0)<q) (hr:4294967296<=r+y1):q-1=(u*4294967296+u0)/(y1*4294967296+y0):=by
 obtain ⟨n1,n2⟩:=Qg0 h1 h1' h0 hu hu0 h hc
 refine Qlc h1 h1' h0 hu hu0 n1 n2 ?_
 have hq:=h.le
 have:(q-1)*y0<=4294967296*4294967295:=Nat.mul_le_mul (by omega) (by omega)
 omega
theorem Qk6 {F:(Int×Int->Option (Int×Int))->Int×Int->Option (Int×Int)} (mk:Int->Int->Int×Int)
  (hF:∀(q r:Nat),q<=4294967297->r<4294967296->∀rec,F rec (mk q r) =
   if 4294967296<=q\/r*4294967296+u0<q*y0 then (if 4294967296<=r+y1 then some (mk ((q-1:Nat):Int) ((r+y1:Nat):Int)) else rec (mk ((q-1:Nat):Int) ((r+y1:Nat):Int))) else some (mk q r)) :
  ∃r:Nat,lfp F (mk ((u/y1:Nat):Int) ((u%y1:Nat):Int))=some (mk (((u*4294967296+u0)/(y1*4294967296+y0):Nat):Int) r):=by
 have key:∀(f q r:Nat),q<f->Qbi y1 y0 u u0 q r->∃r':Nat,Runs F (mk q r) (mk (((u*4294967296+u0)/(y1*4294967296+y0):Nat):Int) r'):=by
  intro f
  induction f with
  |zero=>intro q r h;omega
  |
   succ f ih=>
   intro q r hq h
   by_cases hc:4294967296<=q\/r*4294967296+u0<q*y0
   ·have hlt:=Qmd h1 h1' h0 hu hu0 h hc
    by_cases hr:4294967296<=r+y1
    ·refine ⟨r+y1,.done λrec=>?_⟩
     rw [hF q r h.le h.lt,if_pos hc,if_pos hr,Qpz h1 h1' h0 hu hu0 h hlt hr]
    ·obtain ⟨n1,n2⟩:=Qg0 h1 h1' h0 hu hu0 h hlt
     have hle:=h.le
     have hq1:0<q:=Nat.lt_of_le_of_lt (Z50 _) hlt
     obtain ⟨r',hr'⟩:=ih (q-1) (r+y1) (by omega) ⟨n1,n2,by omega,by omega⟩
     exact ⟨r',.step (λrec=>by rw [hF q r h.le h.lt,if_pos hc,if_neg hr]) hr'⟩
   ·refine ⟨r,.done λrec=>?_⟩
    rw [hF q r h.le h.lt,if_neg hc,<-Qlc h1 h1' h0 hu hu0 h.eq h.ge (by omega)]
 obtain ⟨r',hr'⟩:=key (u/y1+1) _ _ (by omega) (Ql3 h1 h1' h0 hu hu0)
 exact ⟨r',hr'.lfp⟩
theorem Qka {q r:Nat} (hq:q<=4294967297) (hr:r<4294967296) (h:¬4294967296<=q):(wr .u64 ((q:Int)*y0)>wr .u64 (wr .u64 ((4294967296:Int)*r)+u0))↔r*4294967296+u0<q*y0:=by
 have hm:q*y0<=4294967295*4294967295:=Nat.mul_le_mul (by omega) (by omega)
 rw [<-Z37 q y0,Qn (n:=((q*y0:Nat):Int)) (by omega) (by omega),Qn (n:=(4294967296:Int)*r) (by omega) (by omega),Qn (by omega) (by omega)]
 omega
theorem Qnt:∃r:Nat,z19.l0 y1 y0 u0 (((u/y1:Nat):Int),((u%y1:Nat):Int))=some ((((u*4294967296+u0)/(y1*4294967296+y0):Nat):Int),(r:Int)):=by
 refine Qk6 h1 h1' h0 hu hu0 (λq r=>(q,r)) (F:=λrec x=>z19.l0P y1 y0 u0 rec some x) λq r hq hr rec=>?_
 simp only [z19.l0P]
 rw [Qn (n:=(r:Int)+y1) (by omega) (by omega)]
 by_cases hq2:4294967296<=q
 ·rw [bif_t (by omega),if_pos (.inl hq2),Qn (n:=(q:Int)-1) (by omega) (by omega)]
  by_cases hr2:4294967296<=r+y1
  ·rw [bif_t (by omega),if_pos hr2];congr 2<;>omega
  ·rw [Qc (by omega),if_neg hr2];congr 2<;>omega
 ·rw [Qc (by omega)]
  have ht:=Qka h1 h1' h0 hu hu0 hq hr hq2
  by_cases hc:r*4294967296+u0<q*y0
  ·have hq0:0<q:=Nat.pos_of_ne_zero λh=>by subst h;omega
   rw [bif_t (ht.2 hc),if_pos (.inr hc),Qn (n:=(q:Int)-1) (by omega) (by omega)]
   by_cases hr2:4294967296<=r+y1
   ·rw [bif_t (by omega),if_pos hr2];congr 2<;>omega
   ·rw [Qc (by omega),if_neg hr2];congr 2<;>omega
  ·rw [Qc (λh=>hc (ht.1 h)),if_neg (by omega)]
theorem Qrl:∃r:Nat,z19.l2 y1 y0 u0 (((u%y1:Nat):Int),((u/y1:Nat):Int))=some ((r:Int),(((u*4294967296+u0)/(y1*4294967296+y0):Nat):Int)):=by
 refine Qk6 h1 h1' h0 hu hu0 (λq r=>(r,q)) (F:=λrec x=>z19.l2P y1 y0 u0 rec some x) λq r hq hr rec=>?_
 simp only [z19.l2P]
 rw [Qn (n:=(r:Int)+y1) (by omega) (by omega)]
 by_cases hq2:4294967296<=q
 ·rw [bif_t (by omega),if_pos (.inl hq2),Qn (n:=(q:Int)-1) (by omega) (by omega)]
  by_cases hr2:4294967296<=r+y1
  ·rw [bif_t (by omega),if_pos hr2];congr 2<;>omega
  ·rw [Qc (by omega),if_neg hr2];congr 2<;>omega
 ·rw [Qc (by omega)]
  have ht:=Qka h1 h1' h0 hu hu0 hq hr hq2
  by_cases hc:r*4294967296+u0<q*y0
  ·have hq0:0<q:=Nat.pos_of_ne_zero λh=>by subst h;omega
   rw [bif_t (ht.2 hc),if_pos (.inr hc),Qn (n:=(q:Int)-1) (by omega) (by omega)]
   by_cases hr2:4294967296<=r+y1
   ·rw [bif_t (by omega),if_pos hr2];congr 2<;>omega
   ·rw [Qc (by omega),if_neg hr2];congr 2<;>omega
  ·rw [Qc (λh=>hc (ht.1 h)),if_neg (by omega)]
end
end Go.Proofs.YtjfipepaaddlmaaGreatDoor.A
end
section
namespace Go.Proofs.YtjfipepaaddlmaaGreatDoor.A
open Go
theorem Qc1 {n:Nat} (h:n<18446744073709551616):(BitVec.ofInt (IntKind.bits .u64) (n:Int)).toNat=n:=by
 show (BitVec.ofInt 64 (n:Int)).toNat=n
 rw [BitVec.toNat_ofInt]
 omega
theorem Qj4 {n:Nat} (h:n<18446744073709551616):wr .u64 ((BitVec.ofInt (IntKind.bits .u64) (n:Int) &&& BitVec.ofInt (IntKind.bits .u64) (4294967295:Int)).toNat:Int)=((n%4294967296:Nat):Int):=by
 rw [BitVec.toNat_and,Qc1 h,show (4294967295:Int)=((4294967295:Nat):Int) from rfl,Qc1 (by omega),show 4294967295=2^32-1 from rfl,Nat.and_two_pow_sub_one_eq_mod,Qn (by omega) (by omega)]
theorem Qra {a b s:Nat} (hb:b<2^s) (h:a*2^s+b<18446744073709551616):wr .u64 ((BitVec.ofInt (IntKind.bits .u64) ((a*2^s:Nat):Int) ||| BitVec.ofInt (IntKind.bits .u64) (b:Int)).toNat:Int)=((a*2^s+b:Nat):Int):=by
 rw [BitVec.toNat_or,Qc1 (by omega),Qc1 (by omega),Z44,<-Nat.two_pow_add_eq_or_of_lt hb,Qn (by omega) (by rw [Z44] at h;omega)]
theorem Qrt {B V Y U u1 u0:Nat} (hV:V=(U*B+u1)*B+u0) (hY:0<Y) (h0:u0<B) :
  V/Y=(U*B+u1)/Y*B+((U*B+u1)%Y*B+u0)/Y/\V%Y=((U*B+u1)%Y*B+u0)%Y:=by
 have h1:=Z58 (U*B+u1) Y
 generalize hA:U*B+u1=A at *
 generalize A/Y=q at *
 generalize A%Y=r at *
 have e:V=(r*B+u0)+Y*(q*B):=by
  rw [hV,<-h1,Z30,Z80];omega
 rw [e,Nat.add_mul_div_left _ _ hY,Nat.add_mul_mod_self_left]
 exact ⟨by omega,rfl⟩
theorem Qny {B V Y U u1 u0:Nat} (hV:V=(U*B+u1)*B+u0) (hY:0<Y) (h0:u0<B) (hU:U<Y) (h1:u1<B) :
  ∃q1 U2 q0 U3,(U*B+u1)/Y=q1/\(U2*B+u0)/Y=q0/\Y*q1+U2=U*B+u1/\U2<Y/\Y*q0+U3=U2*B+u0/\U3<Y/\q1<B/\q0<B/\V/Y=q1*B+q0/\V%Y=U3:=by
 obtain ⟨a,b⟩:=Qrt hV hY h0
 have l:∀{u v:Nat},u<Y->v<B->(u*B+v)/Y<B:=λ{u v} hu hv=>by
  rw [Z71 hY]
  have:=Z22 B (show u+1<=Y from hu)
  rw [Z30,Z78] at this
  rw [Z44 B Y];omega
 have hr:=Z81 (U*B+u1) hY
 exact ⟨_,_,_,_,rfl,rfl,Z58 _ _,hr,Z58 _ _,Z81 _ hY,l hU h1,l hr h0,a,b⟩
theorem Qsd {hi lo s:Nat} (hs:s<=64):(hi*18446744073709551616+lo)*2^s=(hi*2^s+lo/2^(64-s))*18446744073709551616+lo*2^s%18446744073709551616:=by
 have e:18446744073709551616=2^(64-s)*2^s:=by rw [<-Z83,show 64-s+s=64 by omega]
 have h:lo/2^(64-s)=lo*2^s/18446744073709551616:=by
  rw [e,Nat.mul_div_mul_right _ _ (Nat.two_pow_pos s)]
 rw [h,Z30,Z30,Nat.mul_right_comm,Z32]
 have:=Z58 (lo*2^s) 18446744073709551616
 omega
theorem bits_Div64 {hi lo y:Nat} (h:hi<y) (hlo:lo<18446744073709551616) (hy:y<18446744073709551616) :
  z19.F hi lo y=some ((((hi*18446744073709551616+lo)/y:Nat):Int),(((hi*18446744073709551616+lo)%y:Nat):Int)):=by
 rcases Z13 hi with h0|h0
 ·subst h0
  have:=Qgz (a:=(lo:Int)) (b:=(y:Int)) (by omega) (by omega)
  rw [show ((0:Nat):Int)=0 from rfl,this,Nat.zero_mul,Z29]
  rfl
 obtain ⟨s,hs,s1,s2,hlead⟩:=Qm0 (x:=y) (by omega) hy
 unfold z19.F
 rw [Qc (by omega),Qc (by omega),Qc (by omega),hlead]
 simp only [Zb]
 have hp:=Nat.two_pow_pos s
 have hV:=Qsd (hi:=hi) (lo:=lo) (s:=s) (by omega)
 have hlt:(hi*18446744073709551616+lo)*2^s<y*2^s*18446744073709551616:=by
  rw [Nat.mul_right_comm];exact Nat.mul_lt_mul_of_pos_right (by omega) hp
 have hb:lo/2^(64-s)<2^s:=by
  rw [Z71 (Nat.two_pow_pos _),<-Z83,show s+(64-s)=64 by omega];exact hlo
 have hqy:=Nat.mul_div_mul_right (hi*18446744073709551616+lo) y hp
 have hmy:=Nat.mul_mod_mul_right (2^s) (hi*18446744073709551616+lo) y
 have e1:wr .u64 (s:Int)=s:=Qn (by omega) (by omega)
 have e4:wr .u64 ((64:Int)-s)=((64-s:Nat):Int):=by rw [Qn (by omega) (by omega)];omega
 have e5:min (64-s) 64=64-s:=by omega
 have e3:min s 64=s:=by omega
 have eY:wr .u64 ((y:Int)*2^s)=((y*2^s:Nat):Int):=by
  rw [show (y:Int)*2^s=((y*2^s:Nat):Int) by push_cast;rfl,Qn (by omega) (by omega)]
 have eL:wr .u64 ((lo:Int)*2^s)=((lo*2^s%18446744073709551616:Nat):Int):=by
  rw [show (lo:Int)*2^s=((lo*2^s:Nat):Int) by push_cast;rfl,Wu];rfl
 have hUY:hi*2^s+lo/2^(64-s)<y*2^s:=by
  have:(hi*2^s+lo/2^(64-s))*18446744073709551616<y*2^s*18446744073709551616:=by omega
  exact Nat.lt_of_mul_lt_mul_right this
 have hHi:=Nat.lt_of_le_of_lt (Nat.le_add_right (hi*2^s) (lo/2^(64-s))) (Nat.lt_trans hUY s2)
 have eH:wr .u64 ((hi:Int)*2^s)=((hi*2^s:Nat):Int):=by
  rw [show (hi:Int)*2^s=((hi*2^s:Nat):Int) by push_cast;rfl,Qn (by omega) (by omega)]
 have eO:=Qra (a:=hi) (s:=s) hb (by omega)
 simp only [e1,e4,Zi,e3,e5,eY,eL,eH,Qao,eO,show min 32 64=32 from rfl]
 generalize hU:hi*2^s+lo/2^(64-s)=U at *
 generalize hYe:y*2^s=Y at *
 generalize hLe:lo*2^s%18446744073709551616=L at *
 have hL:L<18446744073709551616:=by rw [<-hLe];exact Z81 _ (by omega)
 have aY:=Qj4 s2;have aL:=Qj4 hL
 simp only [aY,aL,show (2:Nat)^32=4294967296 from rfl]
 rw [if_pos (by omega),if_pos (by omega),if_pos (by omega),if_pos (by omega)]
 generalize hy1:Y/4294967296=y1 at *
 generalize hy0:Y%4294967296=y0 at *
 generalize hu1:L/4294967296=u1 at *
 generalize hu0:L%4294967296=u0 at *
 have hYd:Y=y1*4294967296+y0:=by omega
 have hLd:L=u1*4294967296+u0:=by omega
 have b1:2147483648<=y1/\y1<4294967296:=by omega
 have b0:y0<4294967296:=by omega
 have b2:u1<4294967296:=by omega
 have b3:u0<4294967296:=by omega
 rw [if_neg (by omega)]
 have hYp:0<Y:=by omega
 obtain ⟨q1,U2,q0,U3,dq1,dq0,m1,m2,m3,m4,hq1,hq0,V1,V2⟩:=Qny (B:=4294967296) (V:=U*18446744073709551616+L) (Y:=Y) (U:=U) (u1:=u1) (u0:=u0) (by omega) hYp b3 hUY b2
 have first:∀{u:Nat},u<18446744073709551616->wr .u64 (Int.tdiv (u:Int) (y1:Int))=((u/y1:Nat):Int)/\wr .u64 ((u:Int)-wr .u64 (wr .u64 (Int.tdiv (u:Int) (y1:Int))*(y1:Int)))=((u%y1:Nat):Int):=λ{u} hu=>by
  have h1:=Nat.div_le_self u y1
  have h2:=Z58 u y1
  have h3:Int.tdiv (u:Int) (y1:Int)=((u/y1:Nat):Int):=by rw [Qf2 (by omega)];rfl
  rw [h3]
  generalize u/y1=q at *
  generalize u%y1=r at *
  rw [Qn (n:=(q:Int)) (by omega) (by omega)]
  refine ⟨rfl,?_⟩
  rw [Z44] at h2
  rw [show (q:Int)*(y1:Int)=((q*y1:Nat):Int) from rfl]
  generalize q*y1=P at *
  rw [Qn (n:=(P:Int)) (by omega) (by omega),Qn (by omega) (by omega)]
  omega
 obtain ⟨f1,f2⟩:=first (u:=U) (by omega)
 simp only [f2]
 rw [f1]
 obtain ⟨r1,d1⟩:=Qnt (y1:=y1) (y0:=y0) (u:=U) (u0:=u1) b1.1 b1.2 b0 (by omega) b2
 rw [d1,<-hYd,dq1]
 simp only [Zb]
 rw [if_neg (by omega)]
 have eU2:wr .u64 (wr .u64 (wr .u64 ((U:Int)*4294967296)+(u1:Int))-wr .u64 ((q1:Int)*(Y:Int)))=(U2:Int):=by
  rw [show (q1:Int)*(Y:Int)=((Y*q1:Nat):Int) by push_cast;exact Int.mul_comm _ _,Wu,Wu,Wu,Wu]
  generalize Y*q1=P at m1 ⊢
  clear d1 V1 V2 m3 m4 dq1 dq0 hV hlt hqy hmy
  omega
 simp only [eU2]
 obtain ⟨g1,g2⟩:=first (u:=U2) (by omega)
 simp only [g2]
 rw [g1]
 obtain ⟨r2,d2⟩:=Qrl (y1:=y1) (y0:=y0) (u:=U2) (u0:=u0) b1.1 b1.2 b0 (by omega) b3
 rw [d2,<-hYd,dq0]
 simp only [Zb]
 rw [if_pos (by omega)]
 have eU3:wr .u64 (wr .u64 (wr .u64 ((U2:Int)*4294967296)+(u0:Int))-wr .u64 ((q0:Int)*(Y:Int)))=(U3:Int):=by
  rw [show (q0:Int)*(Y:Int)=((Y*q0:Nat):Int) by push_cast;exact Int.mul_comm _ _,Wu,Wu,Wu,Wu]
  generalize Y*q0=P at m3 ⊢
  clear d1 d2 V1 V2 m1 dq1 dq0 hV hlt hqy hmy
  omega
 rw [eU3,Qao,Qn (n:=(q1:Int)*4294967296) (by omega) (by omega),Qn (by omega) (by omega)]
 rw [hV,V1] at hqy
 rw [hV,V2] at hmy
 rw [<-hqy,hmy,Nat.mul_div_cancel _ hp]
 rfl
theorem Qhc {a:J0} {b N:Nat} (ha:inB LB a) (hb:0<b) (hb':b<18446744073709551616) (hl:a.length<=800000000) (hN:(N:Int)=valB LB a) :
  ∀
   (k:Nat),k<=a.length->∀(m:Nat) (q:J0),(m:Int)=valB LB (a.drop k)->q.length=a.length->inB LB q->valB LB (q.drop k)=((m/b:Nat):Int) ->
   ∃q',Runs (λrec x=>z20.l0P a b rec some x) (((m%b:Nat):Int),(k:Int)-1,q) (((N%b:Nat):Int),(-1:Int),q')/\q'.length=a.length/\inB LB q'/\valB LB q'=((N/b:Nat):Int)
 |
  0,hk,m,q,hm,hq,hi,hv=>by
  have:m=N:=by rw [Z76] at hm;omega
  subst this
  refine ⟨q,.done λrec=>?_,hq,hi,by rwa [Z76] at hv⟩
  unfold z20.l0P
  simp only
  rw [Qc (by omega)];rfl
 |
  k+1,hk,m,q,hm,hq,hi,hv=>by
  have hka:k<a.length:=by omega
  have hkq:k<q.length:=by omega
  have hd:=Y9 (B:=LB) (by decide) ha k
  obtain ⟨d,hd'⟩:∃d:Nat,a.getD k 0=(d:Int):=⟨(a.getD k 0).toNat,by omega⟩
  have hd2:d<18446744073709551616:=by rw [hd'] at hd;exact_mod_cast hd.2
  obtain ⟨r,hr⟩:∃r,m%b=r:=⟨_,rfl⟩
  have hrb:r<b:=hr▸Z81 m hb
  obtain ⟨x,hx⟩:∃x,r*18446744073709551616+d=x:=⟨_,rfl⟩
  have hxb:x<b*18446744073709551616:=by omega
  obtain ⟨z,hz⟩:∃z,x/b=z:=⟨_,rfl⟩
  obtain ⟨w,hw⟩:∃w,x%b=w:=⟨_,rfl⟩
  obtain ⟨y,hy⟩:∃y,m/b=y:=⟨_,rfl⟩
  have hq1:z<18446744073709551616:=hz▸Nat.div_lt_of_lt_mul hxb
  have hmm:b*y+r=m:=by rw [<-hy,<-hr];exact Z58 m b
  have hm':((d+LB*m:Nat):Int)=valB LB (a.drop k):=by rw [J6,hd',<-hm,Int.natCast_add,Z37]
  have e:d+LB*m=x+b*(LB*y):=by
   have h4:b*(LB*y)=LB*(b*y):=by rw [<-Z80,Z44 b LB,Z80]
   have h5:LB*m=LB*(b*y)+LB*r:=by rw [<-hmm,Nat.mul_add]
   rw [h4,h5,<-hx,Z44 r];show _=18446744073709551616*r+d+LB*(b*y)
   have:LB*r=18446744073709551616*r:=rfl
   omega
  have hdiv:(d+LB*m)/b=z+LB*y:=by rw [e,Nat.add_mul_div_left _ _ hb,hz]
  have hmod:(d+LB*m)%b=w:=by rw [e,Nat.add_mul_mod_self_left,hw]
  have hvq:valB LB ((q.set k (z:Int)).drop k)=(((d+LB*m)/b:Nat):Int):=by
   rw [J6,Qjd,hv,hdiv,hy]
   have:(q.set k (z:Int)).getD k 0=(z:Int):=by simp [List.getD,hkq]
   rw [this,Int.natCast_add,Z37]
  obtain ⟨q',r1,r2,r3,r4⟩:=Qhc ha hb hb' hl hN k (by omega) (d+LB*m) (q.set k (z:Int)) hm' (by simp [hq]) (Qbg hi (by show (0:Int)<=(z:Int)/\(z:Int)<((18446744073709551616:Nat):Int);omega)) hvq
  rw [hmod] at r1
  refine ⟨q',.step (λrec=>?_) r1,r2,r3,r4⟩
  have ek:((k+1:Nat):Int)-1=(k:Int):=by omega
  unfold z20.l0P
  simp only
  rw [ek,bif_t (by omega),if_pos (by omega),Zi,hd',hr,bits_Div64 hrb hd2 hb',hx,hz,hw]
  simp only [Zb]
  rw [if_pos (by omega),if_pos hkq,Qj (by omega) (by omega)]
theorem quot_by {a b:Nat} (hb:0<b) (hb':b<18446744073709551616) (ha:(lb a).length<=800000000):∃q,z20.F (lb a) (b:Int)=some (q,((a%b:Nat):Int))/\q.length=(lb a).length/\inB LB q/\valB LB q=((a/b:Nat):Int):=by
 obtain ⟨q',r1,r2,r3,r4⟩:=Qhc (a:=lb a) (b:=b) (N:=a) (Wo bL a) hb hb' ha (by rw [Ye bL]) (lb a).length (Z5 _) 0 (List.replicate (lb a).length 0) (by rw [List.drop_length];rfl) (by simp) (Qb7 (by decide) _) (by rw [Z63 (by simp)];simp [valB])
 rw [Nat.zero_mod] at r1
 have e:z20.l0 (lb a) (b:Int) ((0:Int),((lb a).length:Int)-1,List.replicate (lb a).length 0)=some (((a%b:Nat):Int),(-1:Int),q'):=r1.lfp
 refine ⟨q',?_,r2,r3,r4⟩
 unfold z20.F
 rw [if_pos (by omega),Zi,Qj (by omega) (by omega),e]
 rfl
theorem Qm4 {a b:Nat} (hb:0<b) (hb':b<18446744073709551616) (ha:(lb a).length<=800000000):Yx a b:=by
 rcases Z53 a b with h|h
 ·exact Qkr h (by omega)
 ·have hl:(lb b).length<=1:=Jn bL (by simpa using hb')
  obtain ⟨q,q1,q2,q3,q4⟩:=quot_by hb hb' ha
  unfold Yx z25.F
  rw [Wq]
  simp only [Zb]
  rw [Qc (by omega),Qdg (by omega)]
  simp only [Zb]
  have:¬cmpI (a:Int) b<0:=by unfold cmpI;rw [if_neg (by omega)];split<;>omega
  rw [Qc this,Qbc (by show List.length _<=_;omega),Qbc (by show List.length _<=_;omega)]
  simp only [Zb]
  rw [Qch hb hb',Z19,bif_t (by omega),if_pos (by omega),show [(b:Int)].getD 0 0=b from rfl,q1]
  simp only [Zb]
  rw [Qhy q3 (by show List.length _<=_;omega),q4]
  simp only [Zb]
  have hm:=Z81 a hb
  rw [W0 (by omega)]
  rfl
inductive Rem (len:Nat):Nat->Nat->List Int->Prop
 |stop (j:Nat) (h:len<=j):Rem len 0 j []
 |step (n j:Nat) (ds:List Int) (h:0<n\/j<len) (hr:Rem len (n/10) (j+1) ds):Rem len n j (((n%10:Nat):Int)::ds)
def asc (d:Int):Int:=48+d
theorem Qsh {s:J0} {i:Nat} {x:Int} (h:i<s.length):(s.set i x).drop i=x::s.drop (i+1):=by
 rw [Z40 (by simpa using h),Qjd]
 simp
theorem Qqs {len:Nat} (hlen:len<=20) {n j:Nat} {ds:J0} (h:Rem len n j ds):n<18446744073709551616->j+ds.length<=20->∀s:J0,s.length=20 ->
  ∃s',Runs (λrec x=>z26.l0P (len:Int) rec some x) ((n:Int),((20-j:Nat):Int),s) ((0:Int),((20-j-ds.length:Nat):Int),s')/\s'.length=20/\s'.drop (20-j-ds.length)=ds.reverse.map asc++s.drop (20-j):=by
 induction h with
 |
  stop j h=>
  intro _ hj s hs
  simp only [Z23,Z73] at hj
  refine ⟨s,.done λrec=>?_,hs,by simp⟩
  unfold z26.l0P
  simp only [Z23,Nat.sub_zero]
  rw [Qc (by omega),Qj (by omega) (by omega),Qc (by omega)]
  rfl
 |
  step n j ds h hr ih=>
  intro hn hj s hs
  simp only [Z6] at hj
  have hi:20-(j+1)<s.length:=by omega
  obtain ⟨s',r1,r2,r3⟩:=ih (by omega) (by omega) (s.set (20-(j+1)) (asc ((n%10:Nat):Int))) (by simpa using hs)
  refine ⟨s',?_,r2,?_⟩
  ·rw [Z6,show 20-j-(ds.length+1)=20-(j+1)-ds.length by omega]
   refine .step (λrec=>?_) r1
   have e1:wr .i64 (((20-j:Nat):Int)-1)=((20-(j+1):Nat):Int):=by rw [Qj (by omega) (by omega)];omega
   have e2:wr .u64 (Int.tdiv (n:Int) 10)=((n/10:Nat):Int):=by rw [Qf2 (by omega),Qn (by omega) (by omega)];rfl
   have e3:wr .u8 (wr .u64 (48+Int.tmod (n:Int) 10))=asc ((n%10:Nat):Int):=by
    rw [Qgk (by omega),Qn (by omega) (by omega),Qb3 (by omega) (by omega)];rfl
   unfold z26.l0P
   simp only [e1,e2,e3]
   rcases Z13 n with h0|h0
   ·have hjl:j<len:=h.resolve_left (by omega)
    rw [Qc (by omega),Qj (by omega) (by omega),bif_t (by omega),if_pos (by omega),Zi,if_pos hi]
   ·rw [bif_t (by omega),if_pos (by omega),Zi,if_pos hi]
  ·rw [Z6,show 20-j-(ds.length+1)=20-(j+1)-ds.length by omega,r3,Qsh hi,show 20-(j+1)+1=20-j by omega]
   simp
theorem Qo2 {ds:J0} (h:inB 10 ds):(ds.map asc).map (λn=>UInt8.ofNat n.toNat)=ds.map ch:=by
 rw [List.map_map]
 refine Z67 λd hd=>?_
 have:=h d hd
 show UInt8.ofNat (48+d).toNat=UInt8.ofNat (48+d.toNat)
 rw [show (48+d).toNat=48+d.toNat by omega]
theorem Rem.inB {len n j:Nat} {ds:J0} (h:Rem len n j ds):inB 10 ds:=by
 induction h with
 |stop=>exact Qep _
 |step n j ds h hr ih=>exact Jk.2 ⟨by omega,ih⟩
theorem Qs7 {B:Nat} {l:J0} (h:inB B l):inB B l.reverse:=λx hx=>h x (by simpa using hx)
theorem Qq0 {len n:Nat} {ds:J0} (hlen:len<=20) (hn:n<18446744073709551616) (h:Rem len n 0 ds) (hd:ds.length<=20):z26.F (n:Int) (len:Int)=some (ds.reverse.map ch):=by
 obtain ⟨s',r1,r2,r3⟩:=Qqs hlen h hn (by omega) (List.replicate 20 0) (by simp)
 have e:z26.l0 (len:Int) ((n:Int),(20:Int),List.replicate 20 (0:Int))=some ((0:Int),((20-0-ds.length:Nat):Int),s'):=r1.lfp
 unfold z26.F
 rw [e]
 simp only [Zb]
 have hl:(s'.drop (20-0-ds.length)).length=ds.length:=by rw [Z17];omega
 rw [if_pos r2,if_pos (by omega),Zi,Z27 (by rw [hl];omega),r3]
 simp only [Nat.sub_zero,List.drop_replicate,Nat.sub_self,List.replicate_zero,Z43]
 rw [Qo2 (Qs7 h.inB)]
def lsd:Nat->Nat->J0
 |0,_=>[]
 |k+1,n=>((n%10:Nat):Int)::lsd k (n/10)
theorem Qcu:∀(k n:Nat),(lsd k n).length=k
 |0,_=>rfl
 |k+1,n=>by simp [lsd,Qcu k]
theorem Qg3 {len:Nat}:∀(k n j:Nat),j+k=len->n<10^k->Rem len n j (lsd k n)
 |
  0,n,j,hj,hn=>by
  have:n=0:=by simpa using hn
  subst this;exact .stop j (by omega)
 |k+1,n,j,hj,hn=>.step n j _ (.inr (by omega)) (Qg3 k (n/10) (j+1) (by omega) (by rw [Z45] at hn;omega))
theorem Qsp {len:Nat} (n:Nat):∀j,(len<=j\/0<n/\len<=j+1)->Rem len n j (toB 10 n):=by
 induction n using Nat.strongRecOn with
 |
  _ n ih=>
  intro j hj
  rcases Z13 n with h0|h0
  ·subst h0;rw [toB_zero];exact .stop j (by omega)
  ·rw [Yb b10 h0]
   exact .step n j _ (.inl h0) (ih _ (Nat.div_lt_self h0 (by decide)) (j+1) (.inl (by omega)))
theorem Qem:∀(k low q:Nat),0<q->low<10^k->toB 10 (low+10^k*q)=lsd k low++toB 10 q
 |
  0,low,q,hq,hl=>by
  have:low=0:=by simpa using hl
  subst this;simp [lsd]
 |
  k+1,low,q,hq,hl=>by
  have hp:0<10^k:=Nat.pow_pos (by decide)
  have hpq:0<10^k*q:=Nat.mul_pos hp hq
  have e:low+10^(k+1)*q=low+10*(10^k*q):=by rw [Z45,Z44 (10^k),Z80]
  rw [e,Yb b10 (by omega),lsd]
  rw [Nat.add_mul_mod_self_left,Nat.add_mul_div_left _ _ (by decide),Qem k (low/10) q hq (by rw [Z45] at hl;omega)]
  rfl
inductive Groups:Nat->List (List UInt8)->Prop
 |zero:Groups 0 []
 |last (n:Nat) (h0:0<n) (h:n<10^18):Groups n [(toB 10 n).reverse.map ch]
 |more (low q:Nat) (gs:List (List UInt8)) (hl:low<10^18) (h0:0<q) (hg:Groups q gs):Groups (low+10^18*q) (((lsd 18 low).reverse.map ch)::gs)
theorem Groups.text {n:Nat} {gs:List J1} (h:Groups n gs):gs.reverse.flatten=(toB 10 n).reverse.map ch:=by
 induction h with
 |zero=>rw [toB_zero];rfl
 |last n h0 h=>simp
 |
  more low q gs hl h0 hg ih=>
  rw [List.reverse_cons,List.flatten_append,ih,Qem 18 low q h0 hl,List.reverse_append,List.map_append]
  simp
theorem Groups.pos {n:Nat} {gs:List J1} (h:Groups n gs):∀g∈gs,1<=g.length:=by
 induction h with
 |zero=>intro g hg;simp at hg
 |
  last n h0 h=>
  intro g hg
  simp only [List.mem_singleton] at hg;subst hg
  rw [Yb b10 h0];simp
 |
  more low q gs hl h0 hg ih=>
  intro g hg
  rcases Z49.1 hg with rfl|hg
  ·simp [Qcu]
  ·exact ih g hg
theorem Qh9:∀{gs:List J1},(∀g∈gs,1<=g.length)->gs.length<=gs.flatten.length
 |[],_=>by simp
 |
  g::gs,h=>by
  have:=h g (by simp)
  have:=Qh9 λg' h'=>h g' (List.mem_cons_of_mem _ h')
  simp only [Z6,Z51,Z8];omega
theorem Groups.len {n:Nat} {gs:List J1} (h:Groups n gs):gs.length<=sz n/\gs.flatten.length=sz n:=by
 have ht:=congrArg List.length h.text
 have e:gs.reverse.flatten.length=gs.flatten.length:=by
  simp only [List.length_flatten,List.map_reverse,List.sum_reverse]
 rw [e] at ht
 have ht:gs.flatten.length=sz n:=by rw [ht];unfold sz;simp
 exact ⟨by rw [<-ht];exact Qh9 h.pos,ht⟩
theorem Qr0 (l:J0) (hl:l.length<=1):z27.l2 l (((l.length:Nat):Int)) ((0:Int),(0:Int))=some (l.getD 0 0,(l.length:Int)):=by
 match l,hl with
 |
  [],_=>
  refine (Runs.done λrec=>?_:Runs (λrec x=>z27.l2P [] _ rec some x) _ _).lfp
  unfold z27.l2P
  simp only [Z23]
  rw [Qc (by omega)];rfl
 |
  [x],_=>
  refine (Runs.step (y:=(x,(1:Int))) (λrec=>?_) (Runs.done λrec=>?_):Runs (λrec x'=>z27.l2P [x] _ rec some x') _ _).lfp
  ·unfold z27.l2P
   simp only [Z19]
   rw [bif_t (by omega),if_pos (by omega),Qj (by omega) (by omega)];rfl
  ·unfold z27.l2P
   simp only [Z19]
   rw [Qc (by omega)];rfl
theorem Qn0 {n:Nat} (h:n<18446744073709551616):(lb n).getD 0 0=(n:Int)/\(lb n).length<=1:=by
 rcases Z13 n with rfl|h0
 ·rw [lb_zero];simp
 ·rw [Qch h0 h];simp
theorem Qg1 {low:Nat} {len:Nat} {ds:J0} (hlen:len<=20) (hl:low<18446744073709551616) (hr:Rem len low 0 ds) (hd:ds.length<=20) {gs:List J1} (hg:gs.length<=800000000) {rec done:(J0×List J1)->Option (J0×List J1)} {y:Int} {r:J0×J0×Int} :
  z27.j1010a rec done ((low:Int),y) (len:Int) gs r=rec (r.1,gs++[ds.reverse.map ch]):=by
 unfold z27.j1010a
 rw [Qq0 hlen hl hr hd]
 simp only [Zb,Z19]
 rw [if_pos (by omega)]
theorem Qr6:∀(n:Nat),sz n<=100000000->∀gs:List J1,gs.length+sz n<=700000000->∃l,Groups n l/\Runs (λrec x=>z27.l0P rec some x) (lb n,gs) ([],gs++l):=by
 intro n
 induction n using Nat.strongRecOn with
 |
  _ n ih=>
  intro hs gs hg
  obtain ⟨U,hU⟩:∃U,U=1000000000000000000:=⟨_,rfl⟩
  have hU10:10^18=U:=by rw [hU]
  rcases Z13 n with h0|h0
  ·subst h0
   refine ⟨[],.zero,.done λrec=>?_⟩
   unfold z27.l0P
   simp only [Wq,Zb]
   rw [lb_zero,Z43];rfl
  ·have hUp:0<U:=by omega
   have hdm:=Z58 n U
   have hml:=Z81 n hUp
   have hdl:n/U<=n:=Nat.div_le_self _ _
   have hD:Yx n U:=Qm4 hUp (by omega) (by have:=Q1 n;omega)
   have hqlt:n/U<n:=Nat.div_lt_self h0 (by omega)
   obtain ⟨q,hq⟩:∃q,n/U=q:=⟨_,rfl⟩
   obtain ⟨low,hlow⟩:∃low,n%U=low:=⟨_,rfl⟩
   unfold Yx at hD
   rw [hq] at hdm hdl hD hqlt;rw [hlow] at hdm hml hD
   have hsq:sz q<=sz n:=Qeg hdl
   obtain ⟨g1,g2⟩:=Qn0 (n:=low) (by omega)
   have hof:z15.F [(1000000000000000000:Int)]=some (lb U):=by rw [W0 (by omega),hU];rfl
   have hl2:=Qr0 (lb low) g2
   rw [g1] at hl2
   have body:∀{rec done:(J0×List J1)->Option (J0×List J1)},z27.l0P rec done (lb n,gs) =
     (bif decide (q=0) then z27.j1010a rec done ((low:Int),((lb low).length:Int)) 1 gs (lb q,lb low,0) else z27.j1010a rec done ((low:Int),((lb low).length:Int)) 18 gs (lb q,lb low,0)):=λ{rec done}=>by
    unfold z27.l0P
    simp only [Wq,Zb]
    rw [Zf (by omega),Zo,Zd,hof]
    simp only [Zb]
    rw [hD]
    simp only [Zb]
    rw [Qbc (by show List.length _<=_;omega)]
    simp only [Zb]
    rw [hl2]
    simp only [Zb,Wq]
   rcases Z13 q with hq0|hq0
   ·subst hq0
    have hn:n=low:=by omega
    subst hn
    have hsz:sz n<=18:=Q4 (by rw [hU10];exact hml)
    refine ⟨[(toB 10 n).reverse.map ch],.last n h0 (by rw [hU10];exact hml),.step (y:=([],gs++[(toB 10 n).reverse.map ch])) (λrec=>?_) (.done λrec=>?_)⟩
    ·rw [body,bif_t rfl]
     refine (Qg1 (len:=1) (by omega) (by omega) (Qsp n 0 (.inr ⟨h0,by omega⟩)) (by show sz n<=20;omega) (by omega)).trans ?_
     rw [lb_zero]
    ·unfold z27.l0P
     rw [<-lb_zero]
     simp only [Wq,Zb]
     rw [lb_zero];rfl
   ·obtain ⟨l,l1,l2⟩:=ih q hqlt (by omega) (gs++[(lsd 18 low).reverse.map ch]) (by
     have h1:sz q<sz n:=by
      have:=congrArg List.length (Qem 18 low q hq0 (by rw [hU10];exact hml))
      rw [Z8,Qcu,hU10,show low+U*q=n by omega] at this
      unfold sz;omega
     simp only [Z8,Z19];omega)
    have hgn:Groups n (((lsd 18 low).reverse.map ch)::l):=by
     have:=Groups.more low q l (by rw [hU10];exact hml) hq0 l1
     rwa [hU10,show low+U*q=n by omega] at this
    refine ⟨_,hgn,.step (y:=(lb q,gs++[(lsd 18 low).reverse.map ch])) (λrec=>?_) (by rw [show gs++((lsd 18 low).reverse.map ch)::l=(gs++[(lsd 18 low).reverse.map ch])++l by simp];exact l2)⟩
    rw [body,Qc (by omega)]
    exact Qg1 (len:=18) (by omega) (by omega) (Qg3 18 low 0 (by omega) (by rw [hU10];exact hml)) (by rw [Qcu];omega) (by omega)
def byts (s:J1):J0:=s.map λc=>(c.toNat:Int)
theorem Qoa (a b:J1):byts (a++b)=byts a++byts b:=by simp [byts]
theorem Qr4 (s:J1):(byts s).all Ys=true:=by
 rw [Z9]
 intro x hx
 obtain ⟨c,_,rfl⟩:=List.mem_map.1 hx
 have:=c.toNat_lt
 simp [Ys];omega
theorem Qq6 (s:J1):(byts s).map (λn=>UInt8.ofNat n.toNat)=s:=by
 unfold byts
 rw [List.map_map]
 conv=>rhs;rw [<-List.map_id s]
 exact Z67 λc _=>by simp
theorem Qb9 (s:J1):(byts s).length=s.length:=by simp [byts]
theorem Qjy {gs:List J1} (hg:gs.length<=800000000) (hs:gs.flatten.length<=100000000):∀(k:Nat),k<=gs.length->∀acc:J1,acc.length+(gs.take k).flatten.length<=100000000 ->
  ∃i,Runs (λrec x=>z27.l4P gs rec some x) ((k:Int)-1,byts acc) (i,byts (acc++(gs.take k).reverse.flatten))
 |
  0,hk,acc,ha=>⟨-1,by
  refine .done λrec=>?_
  unfold z27.l4P
  simp only
  rw [Qc (by omega)];simp⟩
 |
  k+1,hk,acc,ha=>by
  have hk':k<gs.length:=by omega
  have hget:gs.getD k []=gs[k]:=by simp [List.getD,hk']
  have htk:gs.take (k+1)=gs.take k++[gs[k]]:=by rw [List.take_add_one,Z1 hk'];rfl
  have hfl:(gs.take (k+1)).flatten.length=(gs.take k).flatten.length+gs[k].length:=by rw [htk,List.flatten_append,Z8,List.flatten_singleton]
  obtain ⟨i,hi⟩:=Qjy hg hs k (by omega) (acc++gs[k]) (by rw [Z8];omega)
  refine ⟨i,.step (λrec=>?_) (by rw [htk,List.reverse_append,List.reverse_singleton,List.flatten_append,List.flatten_singleton,<-List.append_assoc];exact hi)⟩
  unfold z27.l4P
  simp only
  rw [show ((k+1:Nat):Int)-1=(k:Int) by omega,bif_t (by omega),if_pos (by omega),Zi,if_pos hk',hget]
  change (if ((byts acc).length+(byts gs[k]).length)*1<=140737488355328 then _ else none)=_
  rw [Qb9,Qb9,if_pos (by omega),Qj (by omega) (by omega),Qoa]
  rfl
theorem digits_Print {n:Nat} (hs:sz n<=100000000):z27.F (lb n)=some (txt n):=by
 unfold z27.F
 rw [Wq]
 simp only [Zb]
 rcases Z13 n with h0|h0
 ·subst h0;rfl
 rw [Qc (by omega)]
 obtain ⟨gs,g1,g2⟩:=Qr6 n hs [] (by simp only [Z23];omega)
 have e0:z27.l0 (lb n,[])=some ([],gs):=g2.lfp
 obtain ⟨l1,l2⟩:=g1.len
 have ht:=g1.text
 have hn:0<gs.length:=by
  cases gs with
  |nil=>exfalso;cases g1;omega
  |cons=>simp
 rw [e0]
 simp only [Zb]
 obtain ⟨k,hk⟩:∃k,gs.length=k+1:=⟨gs.length-1,by omega⟩
 have hk':k<gs.length:=by omega
 have hget:gs.getD k []=gs[k]:=by simp [List.getD,hk']
 have htk:gs=gs.take k++[gs[k]]:=by
  have:=List.take_add_one (l:=gs) (i:=k)
  rw [Z1 hk',Z27 (by omega)] at this;exact this
 have hfl:gs.flatten.length=(gs.take k).flatten.length+gs[k].length:=by
  conv=>lhs;rw [htk]
  rw [List.flatten_append,Z8,List.flatten_singleton]
 rw [hk,Qj (n:=((k+1:Nat):Int)-1) (by omega) (by omega),show ((k+1:Nat):Int)-1=(k:Int) by omega,bif_t (by omega),if_pos (by omega),Zi,if_pos (by omega),hget]
 change (if (0+(byts gs[k]).length)*1<=140737488355328 then ((z27.l4 gs (wr .i64 ((k:Int)-1),[]++byts gs[k])).bind _) else none)=_
 rw [Qb9,if_pos (by omega),Qj (by omega) (by omega),List.nil_append]
 obtain ⟨i,hi⟩:=Qjy (gs:=gs) (by omega) (by omega) k (by omega) gs[k] (by omega)
 have e4:z27.l4 gs ((k:Int)-1,byts gs[k])=some (i,byts (gs[k]++(gs.take k).reverse.flatten)):=hi.lfp
 have hall:gs[k]++(gs.take k).reverse.flatten=gs.reverse.flatten:=by
  conv=>rhs;rw [htk]
  rw [List.reverse_append,List.reverse_singleton,List.flatten_append,List.flatten_singleton]
 rw [e4,hall]
 simp only [Zb]
 have hlen:gs.reverse.flatten.length=sz n:=by rw [ht];unfold sz;simp
 have hszp:0<sz n:=by omega
 rw [Qb9,if_pos (by omega),if_pos ⟨trivial,by omega,Qr4 _⟩,Qq6,ht]
 unfold txt
 rw [if_neg (by omega)]
def itxt (z:Int):J1:=if z<0 then 45::txt z.natAbs else txt z.natAbs
theorem Qm7 (n:Nat):(txt n).length<=sz n+1:=by
 unfold txt;split
 ·simp
 ·unfold sz;simp
theorem Qjj {z:Int} (hs:sz z.natAbs<=100000000):z28.F (lb z.natAbs) (neg z)=some (itxt z):=by
 have:=Qm7 z.natAbs
 unfold z28.F itxt
 by_cases h:z<0
 ·rw [bif_t h,digits_Print hs,if_pos h]
  simp only [Zb]
  rw [if_pos (by simp only [Z19];omega)];rfl
 ·rw [Qc h,digits_Print hs,if_neg h];rfl
def ltr (b:UInt8):Bool:=decide (97<=b.toNat)&&decide (b.toNat<=122)
def dgt (b:UInt8):Bool:=decide (48<=b.toNat)&&decide (b.toNat<=57)
def wrd (b:UInt8):Bool:=ltr b||dgt b||decide (b.toNat=45)
def nmr (b:UInt8):Bool:=dgt b||decide (b.toNat=45)||decide (b.toNat=46)
def bln (b:UInt8):Bool:=decide (b.toNat=32)||decide (b.toNat=9)||decide (b.toNat=10)||decide (b.toNat=13)
def sgn (b:UInt8):Bool:=decide (b.toNat=123)||decide (b.toNat=125)||decide (b.toNat=61)||decide (b.toNat=59)||decide (b.toNat=44)
def skp:Bool->J1->J1
 |_,[]=>[]
 |true,b::t=>if b.toNat=10 then skp false t else skp true t
 |false,b::t=>if b.toNat=35 then skp true t else if bln b then skp false t else b::t
theorem Wg:∀(r:Bool) (s:J1),(skp r s).length<=s.length
 |_,[]=>by simp [skp]
 |
  true,b::t=>by
  have h1:=Wg false t;have h2:=Wg true t
  unfold skp;split<;>simp<;>omega
 |
  false,b::t=>by
  have h1:=Wg false t;have h2:=Wg true t
  unfold skp;split
  ·simp;omega
  ·split<;>simp<;>omega
theorem Qkc:∀(b:Bool) (l:J1),l.drop (l.length-(skp b l).length)=skp b l:=by
 intro b l
 induction l generalizing b with
 |nil=>simp [skp]
 |
  cons c t iht=>
  have drop1:∀b',(c::t).drop ((c::t).length-(skp b' t).length)=t.drop (t.length-(skp b' t).length):=λb'=>by
   have:=Wg b' t
   rw [show (c::t).length-(skp b' t).length=(t.length-(skp b' t).length)+1 by simp;omega];rfl
  cases b with
  |
   true=>
   rw [skp];split
   ·rw [drop1];exact iht false
   ·rw [drop1];exact iht true
  |
   false=>
   rw [skp];split
   ·rw [drop1];exact iht true
   ·split
    ·rw [drop1];exact iht false
    ·simp
def dtd (s:J1):Bool:=decide (s.length=10)&&(List.range 10).all λi=>if i=4\/i=7 then decide ((s.getD i 0).toNat=45) else dgt (s.getD i 0)
def tokOf (s:J1):Int×J1×Int:=
 if ltr (s.getD 0 0) then (0,s.takeWhile wrd,0)
 else if dgt (s.getD 0 0)||decide ((s.getD 0 0).toNat=45) then
  if dtd (s.takeWhile nmr) then (2,s.takeWhile nmr,0) else if (mDec (s.takeWhile nmr)).2.2=0 then (1,s.takeWhile nmr,0) else (0,[],5)
 else if sgn (s.getD 0 0) then (3,s.take 1,0) else (0,[],4)
theorem Qjw {p:UInt8->Bool} {b:UInt8} {t:J1} (h:p b=true):1<=((b::t).takeWhile p).length/\((b::t).takeWhile p).length<=(b::t).length:=by
 refine ⟨by rw [Z62 h];simp,?_⟩
 exact (List.takeWhile_prefix p).length_le
theorem Qaj {s:J1} (h:s≠[]) (he:(tokOf s).2.2=0):1<=(tokOf s).2.1.length/\(tokOf s).2.1.length<=s.length:=by
 cases s with
 |nil=>exact (h rfl).elim
 |
  cons b t=>
  unfold tokOf at he ⊢
  simp only [Z75] at he ⊢
  by_cases h1:ltr b=true
  ·rw [if_pos h1];exact Qjw (by simp [wrd,h1])
  ·rw [if_neg h1] at he ⊢
   by_cases h2:(dgt b||decide (b.toNat=45))=true
   ·rw [if_pos h2] at he ⊢
    have hp:=Qjw (p:=nmr) (b:=b) (t:=t) (by simp only [nmr,h2,Bool.true_or])
    by_cases h3:dtd (List.takeWhile nmr (b::t))=true
    ·rw [if_pos h3];exact hp
    ·rw [if_neg h3] at he ⊢
     by_cases h4:(mDec (List.takeWhile nmr (b::t))).2.2=0
     ·rw [if_pos h4];exact hp
     ·rw [if_neg h4] at he;simp at he
   ·rw [if_neg h2] at he ⊢
    by_cases h3:sgn b=true
    ·rw [if_pos h3];simp
    ·rw [if_neg h3] at he;simp at he
structure Tk where
 k:Int
 s:List UInt8
 p:Int
def Tk.v (t:Tk):List V:=[.int .i64 t.k,.str t.s,.int .i64 t.p]
def lx (N:Nat) (r:J1):List Tk×Int×Int:=
 if h:r=[] then ([],0,0) else
 if h2:(tokOf r).2.2=0 then
  let m:=lx N (skp false (r.drop (tokOf r).2.1.length))
  if m.2.2=0 then (⟨(tokOf r).1,(tokOf r).2.1,(N:Int)-r.length⟩::m.1,0,0) else ([],m.2.1,m.2.2)
 else ([],(N:Int)-r.length,(tokOf r).2.2)
termination_by r.length
decreasing_by
 have h3:=Qaj h h2
 have h4:=Wg false (r.drop (tokOf r).2.1.length)
 rw [Z17] at h4
 omega
theorem lx_nil (N:Nat):lx N []=([],0,0):=by rw [lx];rfl
theorem Jt {N:Nat} {r:J1} (h:r≠[]) (h2:(tokOf r).2.2≠0):lx N r=([],(N:Int)-r.length,(tokOf r).2.2):=by
 rw [lx,dif_neg h,dif_neg h2]
theorem Y5 {N:Nat} {r:J1} (h:r≠[]) (h2:(tokOf r).2.2=0):lx N r =
  if (lx N (skp false (r.drop (tokOf r).2.1.length))).2.2=0 then (⟨(tokOf r).1,(tokOf r).2.1,(N:Int)-r.length⟩::(lx N (skp false (r.drop (tokOf r).2.1.length))).1,0,0)
  else ([],(lx N (skp false (r.drop (tokOf r).2.1.length))).2.1,(lx N (skp false (r.drop (tokOf r).2.1.length))).2.2):=by
 rw [lx,dif_neg h,dif_pos h2]
def lexOf (s:J1):List Tk×Int×Int:=lx s.length (skp false s)
theorem Qkk (s:J1) (i:Nat) (h:i<s.length):(ByteArray.get! ⟨s.toArray⟩ i)=s.getD i 0:=by
 have h2:i<s.toArray.size:=by simpa using h
 show s.toArray[i]! = _
 rw [getElem!_pos s.toArray i h2]
 simp [Zl,h]
theorem dec_low {s:J1} {i:Nat} (h:i<s.length) (hb:(s.getD i 0).toNat<128):Utf8.decode ⟨s.toArray⟩ i=((s.getD i 0).toNat,1):=by
 unfold Utf8.decode
 simp only [Z73,Qkk s i h]
 rw [if_pos hb]
theorem Qni {s:J1} {i:Nat} (h:i<s.length) (hb:128<=(s.getD i 0).toNat):128<=(Utf8.decode ⟨s.toArray⟩ i).1:=by
 unfold Utf8.decode
 simp only [Z73,Qkk s i h]
 rw [if_neg (by omega)]
 repeat' split
 all_goals first|(simp only [Utf8.runeError];omega)|(simp only [Z3,decide_eq_true_eq] at *;omega)|(simp only;omega)
theorem lex_letter (n:Int):z87.F n=some (decide (97<=n/\n<=122)):=by
 unfold z87.F
 by_cases h:n>=97
 ·rw [bif_t h];congr 1;exact decide_eq_decide.2 (by omega)
 ·rw [Qc h];congr 1;symm;exact Zf (by omega)
theorem lex_digit (n:Int):z88.F n=some (decide (48<=n/\n<=57)):=by
 unfold z88.F
 by_cases h:n>=48
 ·rw [bif_t h];congr 1;exact decide_eq_decide.2 (by omega)
 ·rw [Qc h];congr 1;symm;exact Zf (by omega)
theorem lex_wordly (n:Int):z89.F n=some (decide ((97<=n/\n<=122)\/(48<=n/\n<=57)\/n=45)):=by
 unfold z89.F
 rw [lex_letter]
 simp only [Zb]
 by_cases h:97<=n/\n<=122
 ·rw [bif_t h];congr 1;symm;exact Zt (.inl h)
 ·rw [Qc h,lex_digit]
  simp only [Zb]
  by_cases h2:48<=n/\n<=57
  ·rw [bif_t h2];congr 1;symm;exact Zt (.inr (.inl h2))
  ·rw [Qc h2];congr 1;exact decide_eq_decide.2 (by omega)
theorem lex_numeric (n:Int):z90.F n=some (decide ((48<=n/\n<=57)\/n=45\/n=46)):=by
 unfold z90.F
 rw [lex_digit]
 simp only [Zb]
 by_cases h:48<=n/\n<=57
 ·rw [bif_t h];congr 1;symm;exact Zt (.inl h)
 ·rw [Qc h]
  by_cases h2:n=45
  ·rw [bif_t h2];congr 1;symm;exact Zt (.inr (.inl h2))
  ·rw [Qc h2];congr 1;exact decide_eq_decide.2 (by omega)
theorem wrd_iff (b:UInt8):wrd b=decide ((97<=(b.toNat:Int)/\(b.toNat:Int)<=122)\/(48<=(b.toNat:Int)/\(b.toNat:Int)<=57)\/(b.toNat:Int)=45):=by
 rw [Z48];simp only [wrd,ltr,dgt,Z57,Z3,decide_eq_true_eq];omega
theorem nmr_iff (b:UInt8):nmr b=decide ((48<=(b.toNat:Int)/\(b.toNat:Int)<=57)\/(b.toNat:Int)=45\/(b.toNat:Int)=46):=by
 rw [Z48];simp only [nmr,dgt,Z57,Z3,decide_eq_true_eq];omega
def Ji (G:Int->Option Bool) (s:J1) {R:Type} (rec:Nat->Option R) (done:((J1×Nat)⊕Nat)->Option R):Nat->Option R:=λi=>
 if i<s.length then (G ((Utf8.decode ⟨s.toArray⟩ i).1:Int)).bind λr=>
  bif (!r) then (if (0:Int)<=((i:Nat):Int)/\((i:Nat):Int)<=((s).length:Int) then done (.inl (s.take (((i:Nat):Int)).toNat,i+(Utf8.decode ⟨s.toArray⟩ i).2)) else none)
  else rec (i+(Utf8.decode ⟨s.toArray⟩ i).2)
 else done (.inr i)
theorem Qki {s:J1} {i:Nat} (h:i<s.length):s.drop i=s.getD i 0::s.drop (i+1):=by
 rw [Z40 h,Zl,Z1 h];rfl
theorem scan_runs {G:Int->Option Bool} {p:UInt8->Bool} {s:J1} (hG:∀i,i<s.length->G ((Utf8.decode ⟨s.toArray⟩ i).1:Int)=some (p (s.getD i 0))/\(p (s.getD i 0)=true->(Utf8.decode ⟨s.toArray⟩ i).2=1)) :
  ∀(f i:Nat),i+f=s.length->(∃q,Runs (λrec x=>Ji G s rec some x) i (.inl (s.take (i+((s.drop i).takeWhile p).length),q))/\i+((s.drop i).takeWhile p).length<s.length)\/(Runs (λrec x=>Ji G s rec some x) i (.inr s.length)/\i+((s.drop i).takeWhile p).length=s.length)
 |
  0,i,h=>by
  refine .inr ⟨.done λrec=>?_,?_⟩
  ·unfold Ji;rw [if_neg (by omega),show i=s.length by omega]
  ·rw [List.drop_of_length_le (by omega)];simp;omega
 |
  f+1,i,h=>by
  have hi:i<s.length:=by omega
  obtain ⟨h1,h2⟩:=hG i hi
  rw [Qki hi]
  cases hp:p (s.getD i 0) with
  |
   false=>
   refine .inl ⟨i+(Utf8.decode ⟨s.toArray⟩ i).2,.done λrec=>?_,?_⟩
   ·unfold Ji
    rw [if_pos hi,h1,hp]
    simp only [Zb,Zo,Zd]
    rw [if_pos (by omega),List.takeWhile_cons_of_neg (by rw [hp];simp)]
    rfl
   ·rw [List.takeWhile_cons_of_neg (by rw [hp];simp)];simpa using hi
  |
   true=>
   have hw:=h2 hp
   have hst:∀rec:Nat->Option ((J1×Nat)⊕Nat),Ji G s rec some i=rec (i+1):=λrec=>by
    unfold Ji
    rw [if_pos hi,h1,hp,hw];rfl
   have hl:i+(List.takeWhile p (s.getD i 0::s.drop (i+1))).length=(i+1)+(List.takeWhile p (s.drop (i+1))).length:=by
    rw [Z62 hp,Z6];omega
   rw [hl]
   rcases scan_runs hG f (i+1) (by omega) with ⟨q,r,hlt⟩|⟨r,he⟩
   ·exact .inl ⟨q,.step hst r,hlt⟩
   ·exact .inr ⟨.step hst r,he⟩
theorem Qiq (p:UInt8->Bool) (s:J1):s.take (s.takeWhile p).length=s.takeWhile p:=
 (List.prefix_iff_eq_take.1 (List.takeWhile_prefix p)).symm
theorem scan_at {G:Int->Option Bool} {p:UInt8->Bool} (s:J1) (hG:∀n:Nat,n<128->∀b:UInt8,b.toNat=n->G (n:Int)=some (p b)) (hH:∀n:Nat,128<=n->G (n:Int)=some false) (hp:∀b:UInt8,128<=b.toNat->p b=false) :
  (∃q,lfp (λrec x=>Ji G s rec some x) 0=some (.inl (s.takeWhile p,q))/\(s.takeWhile p).length<s.length)\/(lfp (λrec x=>Ji G s rec some x) 0=some (.inr s.length)/\s.takeWhile p=s):=by
 have h:=scan_runs (G:=G) (p:=p) (s:=s) (λi hi=>by
  by_cases hb:(s.getD i 0).toNat<128
  ·rw [dec_low hi hb]
   exact ⟨hG _ hb _ rfl,λ_=>rfl⟩
  ·have hb':128<=(s.getD i 0).toNat:=by omega
   rw [hp _ hb',hH _ (Qni hi hb')]
   exact ⟨rfl,λh=>by simp at h⟩) s.length 0 (by omega)
 rw [Z76,Z29] at h
 rcases h with ⟨q,r,hlt⟩|⟨r,he⟩
 ·exact .inl ⟨q,by rw [r.lfp,Qiq],hlt⟩
 ·refine .inr ⟨r.lfp,?_⟩
  have:=Qiq p s
  rw [he,List.take_length] at this;exact this.symm
theorem token_l0 (s:J1):(∃q,z95.l0 s s 0=some (.inl (s.takeWhile wrd,q)))\/(z95.l0 s s 0=some (.inr s.length)/\s.takeWhile wrd=s):=by
 rcases scan_at (G:=z89.F) (p:=wrd) s (λn hn b hb=>by rw [lex_wordly,wrd_iff,hb]) (λn hn=>by rw [lex_wordly];congr 1;exact Zf (by omega)) (λb hb=>by rw [wrd_iff];exact Zf (by omega)) with ⟨q,h,_⟩|h
 ·exact .inl ⟨q,h⟩
 ·exact .inr h
theorem token_l0a (s:J1):(∃q,z95.l0a s s 0=some (.inl (s.takeWhile nmr,q)))\/(z95.l0a s s 0=some (.inr s.length)/\s.takeWhile nmr=s):=by
 rcases scan_at (G:=z90.F) (p:=nmr) s (λn hn b hb=>by rw [lex_numeric,nmr_iff,hb]) (λn hn=>by rw [lex_numeric];congr 1;exact Zf (by omega)) (λb hb=>by rw [nmr_iff];exact Zf (by omega)) with ⟨q,h,_⟩|h
 ·exact .inl ⟨q,h⟩
 ·exact .inr h
abbrev shp:J1:=[48,48,48,48,45,48,48,45,48,48]
theorem Qr5 {i:Nat} (h:i<10):Utf8.decode ⟨shp.toArray⟩ i=(if i=4\/i=7 then 45 else 48,1):=by
 have:i=0\/i=1\/i=2\/i=3\/i=4\/i=5\/i=6\/i=7\/i=8\/i=9:=by omega
 rcases this with rfl|rfl|rfl|rfl|rfl|rfl|rfl|rfl|rfl|rfl<;>exact dec_low (by decide) (by decide)
abbrev okD (s:J1) (i:Nat):Bool:=if i=4\/i=7 then decide ((s.getD i 0).toNat=45) else dgt (s.getD i 0)
theorem Qfj (b:UInt8):wr .i32 (b.toNat:Int)=b.toNat:=Qg4 (by omega) (by have:=b.toNat_lt;omega)
theorem Qf8 (b:UInt8):dgt b=decide (48<=(b.toNat:Int)/\(b.toNat:Int)<=57):=by
 rw [Z48];simp only [dgt,Z3,decide_eq_true_eq];omega
theorem dated_loop {s:J1} (hl:s.length=10):∀(f i:Nat),i+f=10->(∃q,Runs (λrec x=>z91.l0P s shp rec some x) i (.inl (false,q))/\∃j,i<=j/\j<10/\okD s j=false)\/(Runs (λrec x=>z91.l0P s shp rec some x) i (.inr 10)/\∀j,i<=j->j<10->okD s j=true)
 |
  0,i,h=>by
  refine .inr ⟨.done λrec=>?_,λj h1 h2=>by omega⟩
  unfold z91.l0P
  rw [if_neg (by show ¬i<10;omega),show i=10 by omega]
 |
  f+1,i,h=>by
  have hi:i<10:=by omega
  have hst:∀rec:Nat->Option ((Bool×Nat)⊕Nat),z91.l0P s shp rec some i=if okD s i=true then rec (i+1) else some (.inl (false,i+1)):=λrec=>by
   unfold z91.l0P
   rw [if_pos (show i<shp.length from hi),Qr5 hi]
   rw [lex_digit]
   simp only [Zb,Zi]
   rw [if_pos (by omega),Qfj,lex_digit]
   simp only [Zb,okD]
   have hil:i<s.length:=by omega
   obtain ⟨c,hc⟩:∃c,s.getD i 0=c:=⟨_,rfl⟩
   simp only [hc]
   have e:wr .u8 45=45:=by decide
   by_cases h47:i=4\/i=7
   ·simp only [if_pos h47]
    by_cases h45:c.toNat=45
    ·rw [h45,if_pos (by omega)];simp [e]
    ·have h45':¬((45:Int)=(c.toNat:Int)):=by omega
     by_cases hd:48<=(c.toNat:Int)/\(c.toNat:Int)<=57
     ·simp [hd,h45]
     ·rw [Zf hd,if_pos (by omega)]
      simp [h45,e,h45']
   ·simp only [if_neg h47,Qf8]
    by_cases hd:48<=(c.toNat:Int)/\(c.toNat:Int)<=57
    ·rw [Zt hd];simp
    ·rw [Zf hd];simp
  cases ho:okD s i with
  |
   false=>
   refine .inl ⟨i+1,.done λrec=>?_,i,Z5 _,hi,ho⟩
   rw [hst,ho];rfl
  |
   true=>
   have hst':∀rec:Nat->Option ((Bool×Nat)⊕Nat),z91.l0P s shp rec some i=rec (i+1):=λrec=>by rw [hst,ho];rfl
   rcases dated_loop hl f (i+1) (by omega) with ⟨q,r,j,h1,h2,h3⟩|⟨r,hall⟩
   ·exact .inl ⟨q,.step hst' r,j,by omega,h2,h3⟩
   ·refine .inr ⟨.step hst' r,λj h1 h2=>?_⟩
    by_cases e:j=i
    ·subst e;exact ho
    ·exact hall j (by omega) h2
theorem lex_dated (s:J1):z91.F s=some (dtd s):=by
 unfold z91.F dtd
 by_cases hl:s.length=10
 ·rw [Zt (show (s.length:Int)=10 by omega),Zt hl]
  simp only [Zn,Zc,Z68]
  rcases dated_loop hl 10 0 rfl with ⟨q,r,j,_,h2,h3⟩|⟨r,hall⟩
  ·have e:z91.l0 s shp 0=some (.inl (false,q)):=r.lfp
   rw [e]
   simp only [Zb]
   congr 1;symm
   rw [Bool.eq_false_iff]
   intro h
   have:=Z9.1 h j (by simpa using h2)
   rw [show okD s j=true from this] at h3;simp at h3
  ·have e:z91.l0 s shp 0=some (.inr 10):=r.lfp
   rw [e]
   simp only [Zb]
   congr 1;symm
   exact Z9.2 λj hj=>hall j (Z50 _) (by simpa using hj)
 ·rw [Zf (show ¬(s.length:Int)=10 by omega),Zf hl];rfl
theorem Qns {n:Nat} (h:128<=n) (h2:n<256):∃a b:UInt8,(Utf8.encode (n:Int)).data.toList=[a,b]/\128<=b.toNat:=by
 unfold Utf8.encode
 have hv:Utf8.valid (n:Int)=true:=by unfold Utf8.valid;rw [Z57];left;simp only [Z3,decide_eq_true_eq];omega
 simp only [hv,if_true,Zi]
 rw [if_neg (by omega),if_pos (by omega)]
 refine ⟨_,_,rfl,?_⟩
 rw [UInt8.toNat_ofNat'];omega
theorem Qpy {b:UInt8} (h:128<=b.toNat):sgn b=false:=by
 have hn:∀k:Nat,k<128->decide (b.toNat=k)=false:=λk hk=>Zf (by omega)
 unfold sgn
 rw [hn 123 (by decide),hn 125 (by decide),hn 61 (by decide),hn 59 (by decide),hn 44 (by decide)];rfl
theorem Qnj (b:UInt8):z94.F [123,125,61,59,44] (b.toNat:Int)=some (sgn b):=by
 unfold z94.F z93.F
 have hb:=b.toNat_lt
 rw [bif_t (by omega)]
 unfold z93.j1
 by_cases h:(b.toNat:Int)<128
 ·rw [bif_t h]
  have e:z2.F [123,125,61,59,44] (wr .u8 (b.toNat:Int))=some (byteIdx [123,125,61,59,44] b):=by
   rw [Qb3 (by omega) (by omega)]
   unfold z2.F
   have:((b.toNat:Int).toNat).toUInt8=b:=by simp
   rw [this]
  unfold z85.F
  rw [e]
  simp only [Zb]
  congr 1
  have hn:byteIdx ([]:J1) b = -1:=rfl
  have key:∀(c:UInt8) (t:J1),(byteIdx (c::t) b>=0↔c=b\/byteIdx t b>=0):=λc t=>by
   rw [Jh]
   by_cases h1:c=b
   ·simp [h1]
   ·rw [if_neg h1];simp only [h1,false_or];split<;>omega
  rw [Z48,decide_eq_true_iff,key,key,key,key,key,hn]
  simp only [sgn,Z57,decide_eq_true_eq,<-UInt8.toNat_inj]
  constructor
  ·rintro (h|h|h|h|h|h)
   ·rw [<-h];decide
   ·rw [<-h];decide
   ·rw [<-h];decide
   ·rw [<-h];decide
   ·rw [<-h];decide
   ·omega
  ·rintro ((((h|h)|h)|h)|h)
   ·exact .inl h.symm
   ·exact .inr (.inl h.symm)
   ·exact .inr (.inr (.inl h.symm))
   ·exact .inr (.inr (.inr (.inl h.symm)))
   ·exact .inr (.inr (.inr (.inr (.inl h.symm))))
 ·have hbb:128<=b.toNat:=by omega
  rw [Qc h,Qc (by omega)]
  have hv:z92.F (b.toNat:Int)=some true:=by
   unfold z92.F z92.j1
   rw [bif_t (by omega),bif_t (by omega)]
  rw [hv]
  obtain ⟨a1,a2,he,ha⟩:=Qns (n:=b.toNat) (by omega) hb
  simp only [Zb,Zn,Zc,he]
  have e1:wr .i64 ((([a1,a2]:J1).length:Int)-1)=1:=by show wr .i64 (((2:Nat):Int)-1)=1;decide
  simp only [e1]
  have e2:wr .i64 ((1:Int)+1)=2:=by decide
  have h2:¬((125:Int)=(a2.toNat:Int)):=by omega
  have e3:z85.F (List.drop (Int.toNat 2) [123,125,61,59,44]) (a2.toNat:Int)=some (-1):=by
   unfold z85.F z2.F
   have:((a2.toNat:Int).toNat).toUInt8=a2:=by simp
   rw [this]
   have ne:∀c:UInt8,c.toNat<128->¬c=a2:=λc hc e=>by subst e;omega
   show some (byteIdx [61,59,44] a2)=some (-1)
   rw [Jh,if_neg (ne _ (by decide)),Jh,if_neg (ne _ (by decide)),Jh,if_neg (ne _ (by decide))];rfl
  have e4:(([123,125,61,59,44]:J1).getD (Int.toNat 1) 0).toNat=125:=rfl
  have e5:(([a1,a2]:J1).getD (Int.toNat 1) 0).toNat=a2.toNat:=rfl
  rw [bif_t (by decide),if_pos (by decide),if_pos (by simp),e4,e5,show (((125:Nat):Int))=125 from rfl,Zf h2]
  simp only [Zo,Zd,e2]
  rw [if_pos (by decide),if_pos (by simp),e3]
  simp only [Zb]
  rw [bif_t (by decide),Zb,Qpy hbb];rfl
theorem lex_token {s:J1} (h:s≠[]):z95.F s=some ((tokOf s).1,(tokOf s).2.1,0,(tokOf s).2.2):=by
 have hl:=Z26.2 h
 have h5:∀t:J1,((z91.F t).bind λr10=>(bif r10 then (some ((2:Int),t,(0:Int),(0:Int))) else ((z50.F t).bind λr11=>(bif (!decide (r11.2.2.2=(0:Int))) then (some ((0:Int),([]:J1),(0:Int),(5:Int))) else (some ((1:Int),t,(0:Int),(0:Int))))))) =
   some (if dtd t then (2,t,0,0) else if (mDec t).2.2=0 then (1,t,0,0) else (0,[],0,5)):=λt=>by
  rw [lex_dated]
  simp only [Zb]
  cases dtd t with
  |true=>rfl
  |
   false=>
   rw [dec_Parse]
   simp only [Zb,Zc]
   by_cases h0:(mDec t).2.2=0
   ·rw [Zt h0,if_pos h0];rfl
   ·rw [Zf h0,if_neg h0];rfl
 have hnum:z95.j6 true s=some (if dtd (s.takeWhile nmr) then (2,s.takeWhile nmr,0,0) else if (mDec (s.takeWhile nmr)).2.2=0 then (1,s.takeWhile nmr,0,0) else (0,[],0,5)):=by
  unfold z95.j6
  simp only [Zd]
  rcases token_l0a s with ⟨q,e⟩|⟨e,he⟩
  ·rw [e];simp only [Zb];exact h5 _
  ·rw [e];simp only [Zb];rw [he];exact h5 s
 unfold z95.F tokOf
 rw [if_pos (by omega),Qfj,lex_letter]
 simp only [Zb]
 generalize hb:s.getD 0 0=b
 have e1:decide (97<=(b.toNat:Int)/\(b.toNat:Int)<=122)=ltr b:=by
  rw [Z48];simp only [ltr,Z3,decide_eq_true_eq];omega
 rw [e1]
 cases h1:ltr b with
 |
  true=>
  simp only [Zd,if_true]
  rcases token_l0 s with ⟨q,e⟩|⟨e,he⟩
  ·rw [e];rfl
  ·rw [e];simp only [Zb];rw [he]
 |
  false=>
  rw [lex_digit]
  simp only [Zb,Zc,Z18,if_false]
  rw [<-Qf8]
  have fin:z95.j6 true s=some ((if dtd (s.takeWhile nmr) then ((2:Int),s.takeWhile nmr,(0:Int)) else if (mDec (s.takeWhile nmr)).2.2=0 then (1,s.takeWhile nmr,0) else (0,[],5)).1,(if dtd (s.takeWhile nmr) then ((2:Int),s.takeWhile nmr,(0:Int)) else if (mDec (s.takeWhile nmr)).2.2=0 then (1,s.takeWhile nmr,0) else (0,[],5)).2.1,0,(if dtd (s.takeWhile nmr) then ((2:Int),s.takeWhile nmr,(0:Int)) else if (mDec (s.takeWhile nmr)).2.2=0 then (1,s.takeWhile nmr,0) else (0,[],5)).2.2):=by
   rw [hnum]
   split
   ·rfl
   ·split<;>rfl
  cases h2:dgt b with
  |true=>simp only [Zd,Bool.true_or,if_true];exact fin
  |
   false=>
   simp only [Zc,Z79]
   by_cases h3:b.toNat=45
   ·rw [Zt (show (b.toNat:Int)=45 by omega),Zt h3]
    simp only [if_true];exact fin
   ·rw [Zf (show ¬(b.toNat:Int)=45 by omega),Zf h3]
    simp only [Z18,if_false]
    unfold z95.j6
    simp only [Zc]
    rw [hb,Qfj,Qnj]
    simp only [Zb]
    cases sgn b with
    |true=>simp only [Zd,if_true];rw [if_pos (by omega)]
    |false=>simp only [Zc,Z18,if_false]
theorem Qes (b:UInt8):([32,9,10,13]:J1).contains b=bln b:=by
 rw [Z48]
 simp only [List.contains_cons,List.contains_nil,Bool.or_false,Z57,beq_iff_eq,bln,decide_eq_true_eq,<-UInt8.toNat_inj]
 simp only [show (32:UInt8).toNat=32 from rfl,show (9:UInt8).toNat=9 from rfl,show (10:UInt8).toNat=10 from rfl,show (13:UInt8).toNat=13 from rfl]
 omega
theorem Qjh:∀l:J1,skp false (trimL l [32,9,10,13])=skp false l
 |[]=>rfl
 |
  b::t=>by
  by_cases hb:bln b=true
  ·have e:trimL (b::t) [32,9,10,13]=trimL t [32,9,10,13]:=by unfold trimL;exact List.dropWhile_cons_of_pos (by rw [Qes];exact hb)
   rw [e,Qjh t]
   have h35:¬b.toNat=35:=λe=>by simp [bln,e] at hb
   conv=>rhs;rw [skp]
   rw [if_neg h35,if_pos hb]
  ·have e:trimL (b::t) [32,9,10,13]=b::t:=by unfold trimL;exact List.dropWhile_cons_of_neg (by rw [Qes];exact hb)
   rw [e]
theorem Qpc {l:J1} {b:UInt8} {t:J1} (h:trimL l [32,9,10,13]=b::t):bln b=false:=by
 have:=List.head?_dropWhile_not (λc=>([32,9,10,13]:J1).contains c) l
 unfold trimL at h
 rw [h] at this
 simpa [<-Qes] using this
theorem Qsz (l:J1):(trimL l [32,9,10,13]).length<=l.length:=(List.dropWhile_suffix _).length_le
theorem Qfb:∀(t:J1) (c:UInt8),byteIdx t c<t.length/\-1<=byteIdx t c
 |[],c=>by simp [byteIdx]
 |
  b::t,c=>by
  have ih:=Qfb t c
  rw [Jh,Z6]
  split
  ·omega
  ·split<;>omega
theorem Qh5:∀t:J1,skp true t=if byteIdx t 10<0 then [] else skp false (t.drop (byteIdx t 10).toNat)
 |[]=>rfl
 |
  b::t=>by
  have hlt:=Qfb t 10
  rw [Jh,skp]
  by_cases h:b=10
  ·subst h
   rw [if_pos rfl,if_pos (show UInt8.toNat 10=10 from rfl),if_neg (by decide)]
   show skp false t=skp false (10::t)
   conv=>rhs;rw [skp]
   rw [if_neg (by decide),if_pos (by decide)]
  ·rw [if_neg h,if_neg (show ¬b.toNat=10 from λe=>h (UInt8.toNat_inj.1 e)),Qh5 t]
   by_cases h2:byteIdx t 10<0
   ·rw [if_pos h2,if_pos h2,if_pos (by decide)]
   ·rw [if_neg h2,if_neg h2,if_neg (by omega)]
    have:(byteIdx t 10+1).toNat=(byteIdx t 10).toNat+1:=by omega
    rw [this];rfl
theorem Qcc (r:J1):z84.F r [35]=some (decide (r.getD 0 0=35)):=by
 unfold z84.F z31.F
 cases r with
 |nil=>rfl
 |
  cons b t=>
  rw [bif_t (by simp only [Z6,Z23];omega),if_pos (by simp only [Z6,Z23];omega)]
  simp only [Zb,Z75]
  congr 1
  exact decide_eq_decide.2 (by simp)
theorem Qkf {s:J1} (hs:s.length<=4611686018427387904):∀(n:Nat) (l:J1),l.length<=n->l.length<=s.length->Runs (λrec x=>z86.l0P s rec some x) l (((s.length-(skp false l).length:Nat):Int))
 |
  n,l,hn,hls=>by
  have htl:=Qsz l
  have ht:z4.F l [32,9,10,13]=some (trimL l [32,9,10,13]):=by unfold z4.F;rw [if_pos ⟨by decide,by decide⟩]
  have hsk:=Qjh l
  cases hr:trimL l [32,9,10,13] with
  |
   nil=>
   refine .done λrec=>?_
   unfold z86.l0P
   rw [ht,hr]
   simp only [Zb]
   rw [Qcc]
   simp only [Zb]
   rw [show (!decide (([]:J1).getD 0 0=35))=true from rfl]
   simp only [Zd]
   rw [<-hsk,hr,Qj (by simp only [Z23];omega) (by simp only [Z23];omega)]
   rfl
  |
   cons b t=>
   have hb:=Qpc hr
   rw [hr] at hsk htl
   have hlen:(b::t).length=t.length+1:=rfl
   by_cases h35:b=35
   ·subst h35
    have hi:=Qfb t 10
    have e1:skp false (35::t)=skp true t:=by rw [skp];rfl
    have e2:byteIdx (35::t) 10=if byteIdx t 10<0 then -1 else byteIdx t 10+1:=by rw [Jh,if_neg (by decide)]
    have e3:z85.F (35::t) 10=some (byteIdx (35::t) 10):=rfl
    rw [<-hsk,e1,Qh5]
    by_cases hneg:byteIdx t 10<0
    ·refine .done λrec=>?_
     unfold z86.l0P
     rw [ht,hr]
     simp only [Zb]
     rw [Qcc]
     simp only [Zb]
     rw [show (!decide ((35::t:J1).getD 0 0=35))=false from rfl]
     simp only [Zc]
     rw [e3]
     simp only [Zb]
     rw [e2,if_pos hneg,bif_t (by decide),if_pos hneg]
     simp
    ·rw [if_neg hneg]
     match n,hn with
     |0,hn=>simp at htl;omega
     |
      n+1,hn=>
      have hd:(t.drop (byteIdx t 10).toNat).length<=t.length:=by rw [Z17];omega
      refine .step (λrec=>?_) (Qkf hs n (t.drop (byteIdx t 10).toNat) (by omega) (by omega))
      unfold z86.l0P
      rw [ht,hr]
      simp only [Zb]
      rw [Qcc]
      simp only [Zb]
      rw [show (!decide ((35::t:J1).getD 0 0=35))=false from rfl]
      simp only [Zc]
      rw [e3]
      simp only [Zb]
      rw [e2,if_neg hneg,Qc (by omega),if_pos (by simp only [Z6];omega)]
      have:(byteIdx t 10+1).toNat=(byteIdx t 10).toNat+1:=by omega
      rw [this];rfl
   ·refine .done λrec=>?_
    unfold z86.l0P
    rw [ht,hr]
    simp only [Zb]
    rw [Qcc]
    simp only [Zb,Z75]
    rw [Zf h35]
    simp only [Zo,Zd]
    have e1:skp false (b::t)=b::t:=by rw [skp,if_neg (show ¬b.toNat=35 from λe=>h35 (UInt8.toNat_inj.1 e)),if_neg (by rw [hb];simp)]
    rw [<-hsk,e1,Qj (by omega) (by omega)]
    congr 1;omega
theorem lex_between {s:J1} (hs:s.length<=4611686018427387904):z86.F s=some (((s.length-(skp false s).length:Nat):Int)):=by
 unfold z86.F
 have e:z86.l0 s s=some _:=(Qkf hs s.length s (Z5 _) (Z5 _)).lfp
 rw [e];rfl
theorem Qq3 {s:J1} (hs:s.length<=1048576):∀(n:Nat) (r:J1) (acc:J2),r.length<=n->r.length<=s.length->s.drop (s.length-r.length)=r->acc.length+r.length<=s.length ->
  ∃x,z96.l0 s ((s.length:Int)-r.length,acc)=some x/\(if (lx s.length r).2.2=0 then x=.inl ((s.length:Int),acc++(lx s.length r).1.map Tk.v) else ∃a,x=.inr ([],(lx s.length r).2.1,(lx s.length r).2.2,a))
 |
  n,r,acc,hn,hrs,hd,hacc=>by
  suffices h:∃x,Runs (λrec y=>z96.l0P s rec some y) ((s.length:Int)-r.length,acc) x/\(if (lx s.length r).2.2=0 then x=.inl ((s.length:Int),acc++(lx s.length r).1.map Tk.v) else ∃a,x=.inr ([],(lx s.length r).2.1,(lx s.length r).2.2,a)) by
   obtain ⟨x,h1,h2⟩:=h
   exact ⟨x,h1.lfp,h2⟩
  revert n
  have key:∀(n:Nat) (r:J1) (acc:J2),r.length<=n->r.length<=s.length->s.drop (s.length-r.length)=r->acc.length+r.length<=s.length ->
    ∃x,Runs (λrec y=>z96.l0P s rec some y) ((s.length:Int)-r.length,acc) x/\(if (lx s.length r).2.2=0 then x=.inl ((s.length:Int),acc++(lx s.length r).1.map Tk.v) else ∃a,x=.inr ([],(lx s.length r).2.1,(lx s.length r).2.2,a)):=by
   intro n
   induction n with
   |
    zero=>
    intro r acc hn hrs hd hacc
    have:r=[]:=Z7 (by omega)
    subst this
    refine ⟨.inl ((s.length:Int),acc),.done λrec=>?_,?_⟩
    ·unfold z96.l0P
     simp only
     rw [Qc (by simp)];simp
    ·rw [lx_nil];simp
   |
    succ n ih=>
    intro r acc hn hrs hd hacc
    by_cases hr:r=[]
    ·subst hr
     refine ⟨.inl ((s.length:Int),acc),.done λrec=>?_,?_⟩
     ·unfold z96.l0P
      simp only
      rw [Qc (by simp)];simp
     ·rw [lx_nil];simp
    have hpos:=Z26.2 hr
    have hat:((s.length:Int)-r.length).toNat=s.length-r.length:=by omega
    have htok:z95.F (s.drop ((s.length:Int)-r.length).toNat)=some ((tokOf r).1,(tokOf r).2.1,0,(tokOf r).2.2):=by rw [hat,hd,lex_token hr]
    by_cases he:(tokOf r).2.2=0
    ·obtain ⟨l1,l2⟩:=Qaj hr he
     have hu:s.drop (s.length-r.length+(tokOf r).2.1.length)=r.drop (tokOf r).2.1.length:=by rw [<-Z82,hd]
     generalize hu':r.drop (tokOf r).2.1.length=u at *
     have hul:u.length=r.length-(tokOf r).2.1.length:=by rw [<-hu',Z17]
     have hsl:=Wg false u
     have hbt:=lex_between (s:=u) (by omega)
     have hd2:s.drop (s.length-(skp false u).length)=skp false u:=by
      have hul2:u.length=s.length-(s.length-r.length+(tokOf r).2.1.length):=by rw [<-hu,Z17]
      calc s.drop (s.length-(skp false u).length)=(s.drop (s.length-r.length+(tokOf r).2.1.length)).drop (u.length-(skp false u).length):=by rw [Z82];congr 1;omega
       _=u.drop (u.length-(skp false u).length):=by rw [hu]
       _=skp false u:=Qkc false u
     obtain ⟨x,hx,hx2⟩:=ih (skp false u) (acc++[[.int .i64 (tokOf r).1,.str (tokOf r).2.1,.int .i64 ((s.length:Int)-r.length)]]) (by omega) (by omega) hd2 (by simp;omega)
     refine ⟨x,.step (λrec=>?_) hx,?_⟩
     ·unfold z96.l0P
      simp only
      rw [bif_t (by omega),if_pos (by omega),htok]
      simp only [Zb]
      rw [Zt he]
      simp only [Zn,Zc]
      rw [if_pos (by simp;omega)]
      have ew:wr .i64 ((s.length:Int)-r.length+(tokOf r).2.1.length)=((s.length-r.length+(tokOf r).2.1.length:Nat):Int):=by
       rw [Qj (by omega) (by omega)];omega
      rw [ew,if_pos (by omega),Zi,hu,hbt]
      simp only [Zb]
      rw [Qj (by omega) (by omega)]
      congr 2
      omega
     ·rw [Y5 hr he,hu']
      by_cases hm:(lx s.length (skp false u)).2.2=0
      ·rw [if_pos hm] at hx2 ⊢
       rw [if_pos rfl,hx2]
       simp [Tk.v]
      ·rw [if_neg hm] at hx2 ⊢
       rw [if_neg hm]
       exact hx2
    ·refine ⟨.inr ([],(s.length:Int)-r.length,(tokOf r).2.2,acc),.done λrec=>?_,?_⟩
     ·unfold z96.l0P
      simp only
      rw [bif_t (by omega),if_pos (by omega),htok]
      simp only [Zb]
      rw [Zf he];rfl
     ·rw [Jt hr he,if_neg he];exact ⟨acc,rfl⟩
  intro n hn
  exact key n r acc hn hrs hd hacc
theorem lex_Lex (s:J1):z96.F s=some (if 1048576<s.length then ([],0,7) else ((lexOf s).1.map Tk.v,(lexOf s).2.1,(lexOf s).2.2)):=by
 unfold z96.F
 by_cases hs:1048576<s.length
 ·rw [bif_t (by omega),if_pos hs]
 ·rw [Qc (by omega),if_neg hs,lex_between (by omega)]
  simp only [Zb]
  have hsl:=Wg false s
  have hsuf:=Qkc false s
  obtain ⟨x,h1,h2⟩:=Qq3 (s:=s) (by omega) s.length (skp false s) [] (by omega) (by omega) hsuf (by simp;omega)
  have e:((s.length-(skp false s).length:Nat):Int)=(s.length:Int)-(skp false s).length:=by omega
  rw [e,h1]
  unfold lexOf
  by_cases hm:(lx s.length (skp false s)).2.2=0
  ·rw [if_pos hm] at h2
   rw [h2,hm]
   have:(lx s.length (skp false s)).2.1=0:=by
    have key:∀(n:Nat) (r:J1),r.length<=n->(lx s.length r).2.2=0->(lx s.length r).2.1=0:=by
     intro n r _ h
     by_cases hr:r=[]
     ·subst hr;rw [lx_nil]
     ·by_cases he:(tokOf r).2.2=0
      ·rw [Y5 hr he] at h ⊢
       split at h
       ·rename_i h3;rw [if_pos h3]
       ·rename_i h3;exact (h3 h).elim
      ·rw [Jt hr he] at h;exact (he h).elim
    exact key _ _ (Z5 _) hm
   rw [this];simp
  ·rw [if_neg hm] at h2
   obtain ⟨a,rfl⟩:=h2
   have:(lx s.length (skp false s)).1=[]:=by
    by_cases hr:skp false s=[]
    ·rw [hr,lx_nil] at hm;exact (hm rfl).elim
    ·by_cases he:(tokOf (skp false s)).2.2=0
     ·rw [Y5 hr he] at hm ⊢
      split
      ·rename_i h3;rw [if_pos h3] at hm;exact (hm rfl).elim
      ·rfl
     ·rw [Jt hr he]
   rw [this];rfl
theorem Qnx (r:J1):((tokOf r).1=2->(tokOf r).2.2=0->dtd (tokOf r).2.1=true)/\((tokOf r).1=1->(mDec (tokOf r).2.1).2.2=0):=by
 unfold tokOf
 split
 ·exact ⟨λh=>by simp at h,λh=>by simp at h⟩
 ·split
  ·split
   ·rename_i h;exact ⟨λ_ _=>h,λh=>by simp at h⟩
   ·split
    ·rename_i h;exact ⟨λh=>by simp at h,λ_=>h⟩
    ·exact ⟨λh=>by simp at h,λh=>by simp at h⟩
  ·split
   ·exact ⟨λh=>by simp at h,λh=>by simp at h⟩
   ·exact ⟨λh=>by simp at h,λh=>by simp at h⟩
theorem Qqv (N:Nat):∀(n:Nat) (r:J1),r.length<=n->r.length<=N->(lx N r).1.length<=r.length/\∀t∈(lx N r).1,(t.k=2->dtd t.s=true)/\t.s.length<=r.length/\0<=t.p/\t.p<=N:=by
 intro n
 induction n with
 |
  zero=>
  intro r hn _
  have:r=[]:=Z7 (by omega)
  subst this
  rw [lx_nil];exact ⟨Z5 _,λt h=>by simp at h⟩
 |
  succ n ih=>
  intro r hn hN
  by_cases hr:r=[]
  ·subst hr;rw [lx_nil];exact ⟨Z5 _,λt h=>by simp at h⟩
  by_cases he:(tokOf r).2.2=0
  ·obtain ⟨l1,l2⟩:=Qaj hr he
   have h4:=Wg false (r.drop (tokOf r).2.1.length)
   rw [Z17] at h4
   rw [Y5 hr he]
   obtain ⟨i1,i2⟩:=ih (skp false (r.drop (tokOf r).2.1.length)) (by omega) (by omega)
   split
   ·refine ⟨by simp only [Z6];omega,λt ht=>?_⟩
    rcases Z49.1 ht with rfl|ht
    ·exact ⟨λh=>(Qnx r).1 h he,l2,by show (0:Int)<=(N:Int)-r.length;omega,by show (N:Int)-r.length<=N;omega⟩
    ·obtain ⟨j1,j2,j3⟩:=i2 t ht
     exact ⟨j1,by omega,j3⟩
   ·exact ⟨Z50 _,λt h=>by simp at h⟩
  ·rw [Jt hr he];exact ⟨Z50 _,λt h=>by simp at h⟩
abbrev D9:=Int×Int×Int×Int
def mDate (s:J1):D9:=
 if right (tv 0 (s.take 4)) (tv 0 ((s.drop 5).take 2)) (tv 0 (s.drop 8)) then (tv 0 (s.take 4),tv 0 ((s.drop 5).take 2),tv 0 (s.drop 8),0) else (0,0,0,11)
theorem Qk8 {s:J1} (hl:s.length<=6) (hs:∀i,i<s.length->dgt (s.getD i 0)=true):∀(f i:Nat) (n:Int),i+f=s.length->0<=n->n<(10^i:Nat)->Runs (λrec x=>z81.l0P s (s.length:Int) rec some x) (n,(i:Int)) (.inl (tv n (s.drop i),(s.length:Int)))
 |
  0,i,n,h,h1,h2=>by
  refine .done λrec=>?_
  unfold z81.l0P
  simp only
  rw [Qc (by omega),List.drop_of_length_le (by omega),show (i:Int)=(s.length:Int) by omega];rfl
 |
  f+1,i,n,h,h1,h2=>by
  have hi:i<s.length:=by omega
  have hd:=hs i hi
  have hb:48<=(s.getD i 0).toNat/\(s.getD i 0).toNat<=57:=by simpa [dgt] using hd
  have hp:(10^(i+1):Nat)=10*10^i:=by rw [Z45];omega
  have hp2:(10^i:Nat)<=10^6:=Z60 (by decide) (by omega)
  have hp3:(10^6:Nat)=1000000:=by decide
  rw [Qki hi,tv]
  refine .step (λrec=>?_) (Qk8 hl hs f (i+1) (10*n+((s.getD i 0).toNat:Int)-48) (by omega) (by omega) (by rw [hp];omega))
  unfold z81.l0P
  simp only
  have hc:(0:Int)<=(i:Int)/\(i:Int)<(s.length:Int):=by omega
  rw [bif_t (by omega),if_pos hc,Zi,Qc (by omega),if_pos hc,Qc (by omega),if_pos hc]
  rw [Qb3 (by omega) (by omega),Qj (n:=((s.getD i 0).toNat:Int)-48) (by omega) (by omega),Qj (n:=10*n) (by omega) (by omega),Qj (by omega) (by omega),Qj (by omega) (by omega)]
  congr 2
  omega
theorem date_number {s:J1} (hl:s.length<=6) (hs:∀i,i<s.length->dgt (s.getD i 0)=true):z81.F s=some (tv 0 s,true):=by
 have e:z81.l0 s (s.length:Int) (0,0)=some (.inl (tv 0 s,(s.length:Int))):=(Qk8 hl hs s.length 0 0 (by omega) (by omega) (by simp)).lfp
 unfold z81.F
 rw [e];rfl
theorem Qdq {s:J1} (h:dtd s=true):s.length=10/\∀i,i<10->okD s i=true:=by
 unfold dtd at h
 rw [Z3,decide_eq_true_eq] at h
 exact ⟨h.1,λi hi=>Z9.1 h.2 i (by simpa using hi)⟩
theorem Qeu {s:J1} (h:dtd s=true) {i:Nat} (hi:i<10) (h4:i≠4) (h7:i≠7):dgt (s.getD i 0)=true:=by
 have:=(Qdq h).2 i hi
 unfold okD at this
 rwa [if_neg (by omega)] at this
theorem Qf4 {s:J1} (h:dtd s=true) {i:Nat} (hi:i=4\/i=7):(s.getD i 0).toNat=45:=by
 have:=(Qdq h).2 i (by omega)
 unfold okD at this
 rw [if_pos hi] at this
 simpa using this
theorem date_Parse {s:J1} (h:dtd s=true):z82.F s=some (mDate s):=by
 obtain ⟨hl,_⟩:=Qdq h
 have g1:∀i,i<(s.take 4).length->dgt ((s.take 4).getD i 0)=true:=λi hi=>by
  rw [Z14] at hi
  have:(s.take 4).getD i 0=s.getD i 0:=by
   rw [Zl,Zl,Z56];rw [if_pos (by omega)]
  rw [this];exact Qeu h (by omega) (by omega) (by omega)
 have g2:∀i,i<((s.drop 5).take 2).length->dgt (((s.drop 5).take 2).getD i 0)=true:=λi hi=>by
  rw [Z14] at hi
  have:((s.drop 5).take 2).getD i 0=s.getD (5+i) 0:=by
   rw [Zl,Zl,Z56,if_pos (by omega),List.getElem?_drop]
  rw [this];exact Qeu h (by omega) (by omega) (by omega)
 have g3:∀i,i<(s.drop 8).length->dgt ((s.drop 8).getD i 0)=true:=λi hi=>by
  rw [Z17] at hi
  have:(s.drop 8).getD i 0=s.getD (8+i) 0:=by
   rw [Zl,Zl,List.getElem?_drop]
  rw [this];exact Qeu h (by omega) (by omega) (by omega)
 have n1:=date_number (s:=s.take 4) (by rw [Z14];omega) g1
 have n2:=date_number (s:=(s.drop 5).take 2) (by rw [Z14];omega) g2
 have n3:=date_number (s:=s.drop 8) (by rw [Z17];omega) g3
 unfold z82.F
 rw [Zt (show (s.length:Int)=10 by omega)]
 simp only [Zn,Zc]
 have h4:=Qf4 h (.inl rfl)
 have h7:=Qf4 h (.inr rfl)
 rw [if_pos (by omega),Zt (show ((s.getD 4 0).toNat:Int)=45 by omega)]
 simp only [Zn,Zc]
 rw [if_pos (by omega),Zt (show ((s.getD 7 0).toNat:Int)=45 by omega)]
 unfold z82.j1
 rw [if_pos (by omega),n1,Zb,if_pos (by omega),show (7:Nat)-5=2 from rfl,n2,Zb,if_pos (by omega),n3,Zb]
 simp only [Zn,Zc]
 unfold z82.j5 mDate
 rw [date_Check,Zb]
 split<;>rfl
def kPay:J1:=[112,97,121]
def kPre:J1:=[112,114,101,112,97,121]
def Qq1:J1:=[114,101,115,101,116]
def Qn3:J1:=[112,97,115,115]
def kDue:J1:=[100,117,101]
def Wm:List J1:=[kPay,kPre,Qq1,Qn3]
def idxW:List J1->J1->Int->Int
 |[],_,_=>-1
 |w::t,s,i=>if s=w then i else idxW t s (i+1)
def kindOf (s:J1):Int:=idxW Wm s 0
def iend:Int⊕Int->Int | .inl _=>-1 | .inr q=>q
theorem Qhx {L:List J1} (hL:L.length<=1000000) (s:J1):∀(f i:Nat),i+f=L.length->∃x,Runs (λrec x=>z75.l0P L s (L.length:Int) rec some x) (i:Int) x/\iend x=idxW (L.drop i) s i
 |
  0,i,h=>by
  refine ⟨.inl (i:Int),.done λrec=>?_,?_⟩
  ·unfold z75.l0P
   rw [Qc (by omega)]
  ·rw [List.drop_of_length_le (by omega)];rfl
 |
  f+1,i,h=>by
  have hi:i<L.length:=by omega
  have hg:L.getD i []=L[i]:=by rw [Zl,Z1 hi];rfl
  have hst:∀rec:Int->Option (Int⊕Int),z75.l0P L s (L.length:Int) rec some (i:Int)=if s=L[i] then some (.inr (i:Int)) else rec ((i+1:Nat):Int):=λrec=>by
   unfold z75.l0P
   rw [bif_t (by omega),if_pos (by omega),Zi,hg,Qj (by omega) (by omega)]
   by_cases hs:s=L[i]
   ·rw [if_pos hs,Zt hs];rfl
   ·rw [if_neg hs,Zf hs];rfl
  rw [Z40 hi,idxW]
  by_cases hs:s=L[i]
  ·exact ⟨.inr (i:Int),.done λrec=>by rw [hst,if_pos hs],by rw [if_pos hs];rfl⟩
  ·obtain ⟨x,r,hx⟩:=Qhx hL s f (i+1) (by omega)
   exact ⟨x,.step (λrec=>by rw [hst,if_neg hs]) r,by rw [if_neg hs,hx];rfl⟩
theorem Qo9 (s:J1):z75.F Wm s=some (kindOf s):=by
 obtain ⟨x,r,hx⟩:=Qhx (L:=Wm) (by decide) s Wm.length 0 (by omega)
 have e:z75.l0 Wm s ((Wm.length:Nat):Int) 0=some x:=r.lfp
 unfold z75.F
 rw [e]
 have:iend x=kindOf s:=hx
 rw [<-this]
 cases x<;>rfl
theorem Qjb (s:J1):-1<=kindOf s/\kindOf s<=3:=by
 unfold kindOf Wm idxW idxW idxW idxW idxW
 repeat' split
 all_goals omega
def Jx (v:J1):Int:=if (mMoney v).2≠0 then (mMoney v).2 else if (mMoney v).1=0 then 19 else 0
def mVal (k:Int) (v:J1):Int:=
 if k=3 then (if v=[] then 0 else 4) else if k=2 then (Qae v).2 else if k=0/\v=kDue then 0 else Jx v
theorem script_money (v:J1):z48.F v=some (Jx v):=by
 unfold z48.F Jx
 rw [terms_Money,Zb]
 by_cases h:(mMoney v).2=0
 ·simp only [h,decide_true,Zd,ne_eq,not_true_eq_false,if_false]
  rw [Qal,Zb]
  by_cases h0:(mMoney v).1=0
  ·rw [if_pos h0,bif_t (Qjz.2 h0)]
  ·rw [if_neg h0,Qc (λe=>h0 (Qjz.1 e))]
 ·rw [if_pos h,Qc h]
theorem script_value {k:Int} (hk:0<=k/\k<=3) (y m d:Int) (v:J1):z70.F k y m d v=some (mVal k v):=by
 unfold z70.F mVal
 by_cases h0:k=0
 ·rw [bif_t h0,if_neg (by omega),if_neg (by omega)]
  by_cases hv:v=kDue
  ·rw [if_pos ⟨h0,hv⟩];exact bif_t hv
  ·rw [if_neg (λh=>hv h.2)]
   refine (Qc hv).trans ?_
   rw [script_money];rfl
 ·rw [Qc h0,if_neg (show ¬(k=0/\v=kDue) from λh=>h0 h.1)]
  by_cases h1:k=1
  ·rw [bif_t h1,if_neg (by omega),if_neg (by omega),script_money];rfl
  ·rw [Qc h1]
   by_cases h2:k=2
   ·rw [bif_t h2,if_neg (by omega),if_pos h2,terms_Rate];rfl
   ·rw [Qc h2,if_pos (show k=3 by omega)]
    by_cases hv:v=[]
    ·rw [if_pos hv,Zt hv];rfl
    ·rw [if_neg hv,Zf hv];rfl
def mWorth (k:Int) (t:Tk):Int×J1:=
 if t.k=0/\k=0 then (if t.s=kDue then (0,kDue) else (14,[]))
 else if t.k≠1 then (4,[])
 else if k=2 then (mVal 2 t.s,t.s)
 else if (mDec t.s).2.2≠0 then ((mDec t.s).2.2,[])
 else if (mDec t.s).2.1≠2 then (10,[])
 else (mVal k (itxt (mDec t.s).1),itxt (mDec t.s).1)
theorem dump_Cents (s:J1):z71.F s=some (if (mDec s).2.2≠0 then ([],false,(mDec s).2.2) else if (mDec s).2.1≠2 then ([],false,10) else (lb (mDec s).1.natAbs,neg (mDec s).1,0)):=by
 unfold z71.F
 rw [dec_Parse,Zb]
 by_cases h:(mDec s).2.2=0
 ·rw [if_neg (λhh=>hh h),Zt (show (decR (mDec s)).2.2.2=0 from h)]
  simp only [Zn,Zc]
  unfold z53.F z54.F
  simp only [Zb]
  by_cases h2:(mDec s).2.1=2
  ·rw [if_neg (λhh=>hh h2),Zt (show (decR (mDec s)).2.2.1=2 from by show ((mDec s).2.1:Int)=2;omega)];rfl
  ·rw [if_pos h2,Zf (show ¬(decR (mDec s)).2.2.1=2 from by show ¬((mDec s).2.1:Int)=2;omega)];rfl
 ·rw [if_pos h,Zf (show ¬(decR (mDec s)).2.2.2=0 from h)];rfl
def hd (N:Int):List Tk->Tk
 |[]=>⟨-1,[],N⟩
 |t::_=>t
theorem Qdj (l:List Tk) (N p:Int):∃z,z7.F (l.map Tk.v) N p=some ((hd N l).k,(hd N l).s,z,l.tail.map Tk.v,N,(hd N l).p):=by
 unfold z7.F
 cases l with
 |nil=>exact ⟨0,rfl⟩
 |
  cons t u=>
  refine ⟨t.p,?_⟩
  have hl:((((t::u).map Tk.v).length:Nat):Int)=(u.length:Int)+1:=by simp
  rw [Qc (by rw [hl];omega),if_pos (by rw [hl];omega)]
  show (if (0:Int)<=1/\(1:Int)<=_ then _ else none)=_
  rw [if_pos (by rw [hl];omega)];rfl
theorem Qru {k:Int} (hk:0<=k/\k<3) (y m d N p:Int) (l:List Tk):∃w,z72.F (l.map Tk.v) N p k y m d []=some ((mWorth k (hd N l)).1,l.tail.map Tk.v,N,(hd N l).p,k,y,m,d,w)/\((mWorth k (hd N l)).1=0->w=(mWorth k (hd N l)).2):=by
 obtain ⟨z,hz⟩:=Qdj l N p
 have hb:=(Qk7 (hd N l).s).2
 unfold z72.F
 rw [hz,Zb]
 generalize hd N l=t at *
 generalize l.tail.map Tk.v=u
 have rest:¬(t.k=0/\k=0)->∃w,z72.j3 false (t.k,t.s,z,u,N,t.p) k y m d []=some ((mWorth k t).1,u,N,t.p,k,y,m,d,w)/\((mWorth k t).1=0->w=(mWorth k t).2):=λhn=>by
  unfold z72.j3 mWorth
  simp only [if_neg hn,Zc]
  by_cases h1:t.k=1
  ·rw [Zt h1]
   simp only [if_neg (show ¬(t.k≠1) from λh=>h h1),Zn,Zc]
   by_cases h2:k=2
   ·rw [bif_t h2,script_value (by omega)]
    simp only [if_pos h2]
    subst h2
    exact ⟨t.s,rfl,λ_=>rfl⟩
   ·rw [Qc h2,dump_Cents,Zb]
    simp only [if_neg h2]
    by_cases h3:(mDec t.s).2.2=0
    ·simp only [if_neg (show ¬((mDec t.s).2.2≠0) from λh=>h h3)]
     by_cases h4:(mDec t.s).2.1=2
     ·simp only [if_neg (show ¬((mDec t.s).2.1≠2) from λh=>h h4)]
      simp only [decide_true,Zn,Zc]
      rw [Qjj (by omega),Zb,script_value (by omega)]
      exact ⟨_,rfl,λ_=>rfl⟩
     ·simp only [if_pos h4]
      exact ⟨[],rfl,λh=>by simp at h⟩
    ·simp only [if_pos h3]
     rw [Zf h3]
     exact ⟨[],rfl,λh=>(h3 h).elim⟩
  ·rw [Zf h1]
   simp only [if_pos h1]
   exact ⟨[],rfl,λh=>by simp at h⟩
 by_cases h0:t.k=0
 ·simp only [Zt h0,Zd]
  by_cases hk0:k=0
  ·simp only [Zt hk0,Zd]
   unfold z72.j2 mWorth
   simp only [if_pos (show t.k=0/\k=0 from ⟨h0,hk0⟩)]
   by_cases hd:t.s=kDue
   ·simp only [if_pos hd]
    rw [Zt (show t.s=[100,117,101] from hd)]
    simp only [Zn,Zc,Zt h0,Zt hk0,Zd]
    exact ⟨kDue,rfl,λ_=>rfl⟩
   ·simp only [if_neg hd]
    rw [Zf (show ¬t.s=[100,117,101] from hd)]
    exact ⟨[],rfl,λh=>by simp at h⟩
  ·simp only [Zf hk0,Zc]
   unfold z72.j2
   simp only [Zf hk0,Zc,Zt h0,Zd]
   exact rest (λh=>hk0 h.2)
 ·simp only [Zf h0,Zc]
  unfold z72.j2
  simp only [Zc,Zf h0]
  exact rest (λh=>h0 h.1)
end Go.Proofs.YtjfipepaaddlmaaGreatDoor.A
end
