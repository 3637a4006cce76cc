/- Part 3 of the proof of TermsTexts.card. -/
import Derived.Test.YtgjncgiekniniaaGreatDoorCtt2
import Derived.Test.YtgjncgiekniniaaGreatDoorRows
import Derived.WalkKit
import Derived.ProofKit
import Derived.OpenShut
import Derived.Carry
import Derived.ChangeSame
import Derived.Deep.Slices
import Derived.Test.YtgjncgiekniniaaGreatDoorCards
import Derived.Test.YtgjncgiekniniaaGreatDoorTie
import Derived.KernelRfl
import Derived.JoinedCond
section
set_option linter.unusedVariables false
set_option linter.unusedSimpArgs false
set_option maxRecDepth 100000
namespace Go.Proofs.YtgjncgiekniniaaGreatDoor.A
open Go
noncomputable section
theorem tab_ok : tab.check Tryz.prog = true := by kernel_rfl
def tabC : Ctx where
  T := tab
theorem mixed_ok : Tryz.prog.follows .mixedOrders = true := by kernel_rfl
theorem z6.l2_sound (hI : InlOK Tryz.prog z6.C fun R => z6.C.inlK 6) : LoopS z6.C 6 102 2 0 (loopAt 2 (ifun Tryz.f102).body) z6.l2sh z6.l2pack := by
  refine loopS fun ls p h => ?_
  unfold z6.l2pack at h; split at h <;> cases h
  rename_i a2001 t2002 s2003 i2004 d2005 k2006
  exact loop_one hI (sh := z6.l2sh) (so := z6.l2sh) (F := fun R rec done x => z6.l2P  rec done x) (enc := fun (x' : ((List UInt8) × Int × Int)) => fillSt z6.l2sh [.li a2001, .s t2002, .s x'.1, .i i2004, .i x'.2.1, .i x'.2.2]) [2, 4, 5] [2, 4, 5] (s2003, d2005, k2006) (by kernel_rfl) (by kernel_rfl) (fun x => by kernel_rfl) (fun o => by kernel_rfl) fun R k d x' => z6.l2_link R k d a2001 t2002 (x'.1) i2004 (x'.2.1) (x'.2.2)
theorem z6.l0_sound (hI : InlOK Tryz.prog z6.C fun R => z6.C.inlK 6) : LoopS z6.C 6 102 0 0 (loopAt 0 (ifun Tryz.f102).body) z6.l0sh z6.l0pack := by
  refine loopS fun ls p h => ?_
  unfold z6.l0pack at h; split at h <;> cases h
  rename_i a1001 t1002 s1003 i1004
  exact loop_one hI (sh := z6.l0sh) (so := z6.l0sh) (F := fun R rec done x => z6.l0P a1001 rec done x) (enc := fun (x' : ((List UInt8) × Int)) => fillSt z6.l0sh [.li a1001, .s t1002, .s x'.1, .i x'.2]) [2, 3] [2, 3] (s1003, i1004) (by kernel_rfl) (by kernel_rfl) (fun x => by kernel_rfl) (fun o => by kernel_rfl) fun R k d x' => z6.l0_link R k d a1001 t1002 (x'.1) (x'.2)
theorem z6.l4_sound (hI : InlOK Tryz.prog z6.C fun R => z6.C.inlK 6) : LoopS z6.C 6 102 4 0 (loopAt 4 (ifun Tryz.f102).body) z6.l4sh z6.l4pack := by
  refine loopS fun ls p h => ?_
  unfold z6.l4pack at h; split at h <;> cases h
  rename_i t3001 s3002 i3003
  exact loop_one hI (sh := z6.l4sh) (so := z6.l4sh) (F := fun R rec done x => z6.l4P s3002 rec done x) (enc := fun (x' : Int) => fillSt z6.l4sh [.s t3001, .s s3002, .i x']) [2] [2] i3003 (by kernel_rfl) (by kernel_rfl) (fun x => by kernel_rfl) (fun o => by kernel_rfl) fun R k d x' => z6.l4_link R k d t3001 s3002 (x')
theorem fun102 : FunOK Tryz.prog 102 Tryz.f102 (ifun Tryz.f102).body := ⟨Tryz.func102, rfl, by kernel_rfl⟩
theorem once102 : loopsOnce (ifun Tryz.f102).body = true := by kernel_rfl
theorem z6.loopsT (hI : InlOK Tryz.prog z6.C fun R => z6.C.inlK 6) : LoopsOK z6.C (fun R => z6.C.inlK 6) 102 0 (ifun Tryz.f102).body := by
  intro id b hm st p hp
  obtain rfl := loopsOnce_mem once102 hm
  unfold z6.C at hp
  simp only at hp
  try split at hp
  all_goals first
    | (simp at hp; done)
    | (exfalso; omega)
    | exact z6.l2_sound hI st p hp
    | exact z6.l0_sound hI st p hp
    | exact z6.l4_sound hI st p hp
theorem z6.hdec : DecOK z6.dec z6.enc := by
  intro v r h
  unfold z6.dec at h; split at h <;> cases h
  exact ⟨rfl, rfl⟩
theorem z6.sound (vs : List V) (p : Pack) (h : z6.pack vs = some p) : SoundC Tryz.prog 102 vs p := by
  unfold z6.pack at h; split at h <;> cases h
  exact loops_sound tab_ok mixed_ok rfl rfl rfl (fun g vs p h => by simp [z6.C] at h) fun102 z6.loopsT rfl (z6.link _) z6.hdec
theorem fun26 : FunOK Tryz.prog 26 Tryz.f26 (ifun Tryz.f26).body := ⟨Tryz.func26, rfl, by kernel_rfl⟩
theorem z7.hdec : DecOK z7.dec z7.enc := by
  intro v r h
  unfold z7.dec at h; split at h <;> cases h
  exact ⟨rfl, rfl⟩
theorem z7.sound (vs : List V) (p : Pack) (h : z7.pack vs = some p) : SoundC Tryz.prog 26 vs p := by
  unfold z7.pack at h; split at h <;> cases h
  exact plain_sound tab_ok mixed_ok rfl rfl rfl rfl (fun g vs p h => by unfold z7.C at h; simp only at h; split at h; exact z6.sound vs p h; simp at h) fun26 rfl (z7.link _ _) z7.hdec
theorem fun113 : FunOK Tryz.prog 113 Tryz.f113 (ifun Tryz.f113).body := ⟨Tryz.func113, rfl, by kernel_rfl⟩
theorem z8.hdec : DecOK z8.dec z8.enc := by
  intro v r h
  unfold z8.dec at h; split at h <;> cases h
  exact ⟨rfl, rfl⟩
theorem z8.sound (vs : List V) (p : Pack) (h : z8.pack vs = some p) : SoundC Tryz.prog 113 vs p := by
  unfold z8.pack at h; split at h <;> cases h
  exact plain_sound tab_ok mixed_ok rfl rfl rfl rfl (fun g vs p h => by simp [z8.C] at h) fun113 rfl (z8.link _ _) z8.hdec
theorem z9.l0_sound (hI : InlOK Tryz.prog z9.C fun R => z9.C.inlK 6) : LoopS z9.C 6 152 0 0 (loopAt 0 (ifun Tryz.f152).body) z9.l0sh z9.l0pack := by
  refine loopS fun ls p h => ?_
  unfold z9.l0pack at h; split at h <;> cases h
  rename_i n1001 s1002 s1003
  exact loop_one hI (sh := z9.l0sh) (so := z9.l0sh) (F := fun R rec done x => z9.l0P  rec done x) (enc := fun (x' : (Int × (List Int))) => fillSt z9.l0sh [.i x'.1, .li s1002, .li x'.2]) [0, 2] [0, 2] (n1001, s1003) (by kernel_rfl) (by kernel_rfl) (fun x => by kernel_rfl) (fun o => by kernel_rfl) fun R k d x' => z9.l0_link R k d (x'.1) s1002 (x'.2)
theorem fun152 : FunOK Tryz.prog 152 Tryz.f152 (ifun Tryz.f152).body := ⟨Tryz.func152, rfl, by kernel_rfl⟩
theorem once152 : loopsOnce (ifun Tryz.f152).body = true := by kernel_rfl
theorem z9.loopsT (hI : InlOK Tryz.prog z9.C fun R => z9.C.inlK 6) : LoopsOK z9.C (fun R => z9.C.inlK 6) 152 0 (ifun Tryz.f152).body := by
  intro id b hm st p hp
  obtain rfl := loopsOnce_mem once152 hm
  unfold z9.C at hp
  simp only at hp
  try split at hp
  all_goals first
    | (simp at hp; done)
    | (exfalso; omega)
    | exact z9.l0_sound hI st p hp
theorem z9.hdec : DecOK z9.dec z9.enc := by
  intro v r h
  unfold z9.dec at h; split at h <;> cases h
  exact ⟨rfl, rfl⟩
theorem z9.sound (vs : List V) (p : Pack) (h : z9.pack vs = some p) : SoundC Tryz.prog 152 vs p := by
  unfold z9.pack at h; split at h <;> cases h
  exact loops_sound tab_ok mixed_ok rfl rfl rfl (fun g vs p h => by simp [z9.C] at h) fun152 z9.loopsT rfl (z9.link _) z9.hdec
theorem fun60 : FunOK Tryz.prog 60 Tryz.f60 (ifun Tryz.f60).body := ⟨Tryz.func60, rfl, by kernel_rfl⟩
theorem z10.hdec : DecOK z10.dec z10.enc := by
  intro v r h
  unfold z10.dec at h; split at h <;> cases h
  exact ⟨rfl, rfl⟩
theorem z10.sound (vs : List V) (p : Pack) (h : z10.pack vs = some p) : SoundC Tryz.prog 60 vs p := by
  unfold z10.pack at h; split at h <;> cases h
  exact plain_sound tab_ok mixed_ok rfl rfl rfl rfl (fun g vs p h => by unfold z10.C at h; simp only at h; split at h; exact z9.sound vs p h; exact z8.sound vs p h; simp at h) fun60 rfl (z10.link _) z10.hdec
theorem fun234 : FunOK Tryz.prog 234 Tryz.f234 (ifun Tryz.f234).body := ⟨Tryz.func234, rfl, by kernel_rfl⟩
theorem z11.hdec : DecOK z11.dec z11.enc := by
  intro v r h
  unfold z11.dec at h; split at h <;> cases h
  exact ⟨rfl, rfl⟩
theorem z11.sound (vs : List V) (p : Pack) (h : z11.pack vs = some p) : SoundC Tryz.prog 234 vs p := by
  unfold z11.pack at h; split at h <;> cases h
  exact plain_sound tab_ok mixed_ok rfl rfl rfl rfl (fun g vs p h => by simp [z11.C] at h) fun234 rfl (z11.link _ _) z11.hdec
theorem z12.l0b6_sound (hI : InlOK Tryz.prog z12.C fun R => z12.C.inlK 6) : LoopS z12.C 6 235 0 0 (loopAt 0 (ifun Tryz.f235).body) z12.l0b6sh z12.l0b6pack := by
  refine loopS fun ls p h => ?_
  unfold z12.l0b6pack at h; split at h <;> cases h
  rename_i a7001 n7002 s7003
  exact loop_one hI (sh := z12.l0b6sh) (so := z12.l0b6sh) (F := fun R rec done x => z12.l0b6P a7001 rec done x) (enc := fun (x' : Int) => fillSt z12.l0b6sh [.li a7001, .i x', .li s7003]) [1] [1] n7002 (by kernel_rfl) (by kernel_rfl) (fun x => by kernel_rfl) (fun o => by kernel_rfl) fun R k d x' => z12.l0b6_link R k d a7001 (x') s7003
theorem fun235 : FunOK Tryz.prog 235 Tryz.f235 (ifun Tryz.f235).body := ⟨Tryz.func235, rfl, by kernel_rfl⟩
theorem once235 : loopsOnce (ifun Tryz.f235).body = true := by kernel_rfl
theorem z12.loopsT (hI : InlOK Tryz.prog z12.C fun R => z12.C.inlK 6) : LoopsOK z12.C (fun R => z12.C.inlK 6) 235 0 (ifun Tryz.f235).body := by
  intro id b hm st p hp
  obtain rfl := loopsOnce_mem once235 hm
  unfold z12.C at hp
  simp only at hp
  try split at hp
  all_goals first
    | (simp at hp; done)
    | (exfalso; omega)
    | exact z12.l0b6_sound hI st p hp
theorem z12.hdec : DecOK z12.dec z12.enc := by
  intro v r h
  unfold z12.dec at h; split at h <;> cases h
  exact ⟨rfl, rfl⟩
theorem z12.sound (vs : List V) (p : Pack) (h : z12.pack vs = some p) : SoundC Tryz.prog 235 vs p := by
  unfold z12.pack at h; split at h <;> cases h
  exact loops_sound tab_ok mixed_ok rfl rfl rfl (fun g vs p h => by simp [z12.C] at h) fun235 z12.loopsT rfl (z12.link _) z12.hdec
theorem z13.l2aa_sound (hI : InlOK Tryz.prog z13.C fun R => z13.C.inlK 6) : LoopS z13.C 6 208 2 0 (loopAt 2 (ifun Tryz.f208).body) z13.l2aash z13.l2aapack := by
  refine loopS fun ls p h => ?_
  unfold z13.l2aapack at h; split at h <;> cases h
  rename_i a4001 b4002 i4003 carry4004 k4005 s4006 s4007
  exact loop_one hI (sh := z13.l2aash) (so := z13.l2aash) (F := fun R rec done x => z13.l2aaP a4001 b4002 i4003 rec done x) (enc := fun (x' : (Int × Int × (List Int))) => fillSt z13.l2aash [.li a4001, .li b4002, .i i4003, .i x'.1, .i x'.2.1, .li s4006, .li x'.2.2]) [3, 4, 6] [3, 4, 6] (carry4004, k4005, s4007) (by kernel_rfl) (by kernel_rfl) (fun x => by kernel_rfl) (fun o => by kernel_rfl) fun R k d x' => z13.l2aa_link R k d a4001 b4002 i4003 (x'.1) (x'.2.1) s4006 (x'.2.2)
theorem z13.l0_sound (hI : InlOK Tryz.prog z13.C fun R => z13.C.inlK 6) : LoopS z13.C 6 208 0 0 (loopAt 0 (ifun Tryz.f208).body) z13.l0sh z13.l0pack := by
  refine loopS fun ls p h => ?_
  unfold z13.l0pack at h; split at h <;> cases h
  rename_i a1001 b1002 i1003 s1004 s1005
  exact loop_one hI (sh := z13.l0sh) (so := z13.l0sh) (F := fun R rec done x => z13.l0P a1001 b1002 rec done x) (enc := fun (x' : (Int × (List Int))) => fillSt z13.l0sh [.li a1001, .li b1002, .i x'.1, .li s1004, .li x'.2]) [2, 4] [2, 4] (i1003, s1005) (by kernel_rfl) (by kernel_rfl) (fun x => by kernel_rfl) (fun o => by kernel_rfl) fun R k d x' => z13.l0_link R k d a1001 b1002 (x'.1) s1004 (x'.2)
theorem fun208 : FunOK Tryz.prog 208 Tryz.f208 (ifun Tryz.f208).body := ⟨Tryz.func208, rfl, by kernel_rfl⟩
theorem once208 : loopsOnce (ifun Tryz.f208).body = true := by kernel_rfl
theorem z13.loopsT (hI : InlOK Tryz.prog z13.C fun R => z13.C.inlK 6) : LoopsOK z13.C (fun R => z13.C.inlK 6) 208 0 (ifun Tryz.f208).body := by
  intro id b hm st p hp
  obtain rfl := loopsOnce_mem once208 hm
  unfold z13.C at hp
  simp only at hp
  try split at hp
  all_goals first
    | (simp at hp; done)
    | (exfalso; omega)
    | exact z13.l2aa_sound hI st p hp
    | exact z13.l0_sound hI st p hp
theorem z13.hdec : DecOK z13.dec z13.enc := by
  intro v r h
  unfold z13.dec at h; split at h <;> cases h
  exact ⟨rfl, rfl⟩
theorem z13.sound (vs : List V) (p : Pack) (h : z13.pack vs = some p) : SoundC Tryz.prog 208 vs p := by
  unfold z13.pack at h; split at h <;> cases h
  exact loops_sound tab_ok mixed_ok rfl rfl rfl (fun g vs p h => by unfold z13.C at h; simp only at h; split at h; exact z11.sound vs p h; exact z12.sound vs p h; simp at h) fun208 z13.loopsT rfl (z13.link _ _) z13.hdec
theorem fun131 : FunOK Tryz.prog 131 Tryz.f131 (ifun Tryz.f131).body := ⟨Tryz.func131, rfl, by kernel_rfl⟩
theorem z14.hdec : DecOK z14.dec z14.enc := by
  intro v r h
  unfold z14.dec at h; split at h <;> cases h
  exact ⟨rfl, rfl⟩
theorem z14.sound (vs : List V) (p : Pack) (h : z14.pack vs = some p) : SoundC Tryz.prog 131 vs p := by
  unfold z14.pack at h; split at h <;> cases h
  exact plain_sound tab_ok mixed_ok rfl rfl rfl rfl (fun g vs p h => by unfold z14.C at h; simp only at h; split at h; exact z13.sound vs p h; exact z8.sound vs p h; simp at h) fun131 rfl (z14.link _ _ _ _) z14.hdec
theorem fun104 : FunOK Tryz.prog 104 Tryz.f104 (ifun Tryz.f104).body := ⟨Tryz.func104, rfl, by kernel_rfl⟩
theorem z15.hdec : DecOK z15.dec z15.enc := by
  intro v r h
  unfold z15.dec at h; split at h <;> cases h
  exact ⟨rfl, rfl⟩
theorem z15.sound (vs : List V) (p : Pack) (h : z15.pack vs = some p) : SoundC Tryz.prog 104 vs p := by
  unfold z15.pack at h; split at h <;> cases h
  exact plain_sound tab_ok mixed_ok rfl rfl rfl rfl (fun g vs p h => by simp [z15.C] at h) fun104 rfl (z15.link _) z15.hdec
theorem fun28 : FunOK Tryz.prog 28 Tryz.f28 (ifun Tryz.f28).body := ⟨Tryz.func28, rfl, by kernel_rfl⟩
theorem z16.hdec : DecOK z16.dec z16.enc := by
  intro v r h
  unfold z16.dec at h; split at h <;> cases h
  exact ⟨rfl, rfl⟩
theorem z16.sound (vs : List V) (p : Pack) (h : z16.pack vs = some p) : SoundC Tryz.prog 28 vs p := by
  unfold z16.pack at h; split at h <;> cases h
  exact plain_sound tab_ok mixed_ok rfl rfl rfl rfl (fun g vs p h => by unfold z16.C at h; simp only at h; split at h; exact z15.sound vs p h; simp at h) fun28 rfl (z16.link _ _) z16.hdec
theorem fun91 : FunOK Tryz.prog 91 Tryz.f91 (ifun Tryz.f91).body := ⟨Tryz.func91, rfl, by kernel_rfl⟩
theorem z17.hdec : DecOK z17.dec z17.enc := by
  intro v r h
  unfold z17.dec at h; split at h <;> cases h
  exact ⟨rfl, rfl⟩
theorem z17.sound (vs : List V) (p : Pack) (h : z17.pack vs = some p) : SoundC Tryz.prog 91 vs p := by
  unfold z17.pack at h; split at h <;> cases h
  exact plain_sound tab_ok mixed_ok rfl rfl rfl rfl (fun g vs p h => by unfold z17.C at h; simp only at h; split at h; exact z15.sound vs p h; simp at h) fun91 rfl (z17.link _ _) z17.hdec
theorem fun184 : FunOK Tryz.prog 184 Tryz.f184 (ifun Tryz.f184).body := ⟨Tryz.func184, rfl, by kernel_rfl⟩
theorem z18.hdec : DecOK z18.dec z18.enc := by
  intro v r h
  unfold z18.dec at h; split at h <;> cases h
  exact ⟨rfl, rfl⟩
theorem z18.sound (vs : List V) (p : Pack) (h : z18.pack vs = some p) : SoundC Tryz.prog 184 vs p := by
  unfold z18.pack at h; split at h <;> cases h
  exact plain_sound tab_ok mixed_ok rfl rfl rfl rfl (fun g vs p h => by simp [z18.C] at h) fun184 rfl (z18.link _ _) z18.hdec
theorem z19.l0b6_sound (hI : InlOK Tryz.prog z19.C fun R => z19.C.inlK 6) : LoopS z19.C 6 185 0 0 (loopAt 0 (ifun Tryz.f185).body) z19.l0b6sh z19.l0b6pack := by
  refine loopS fun ls p h => ?_
  unfold z19.l0b6pack at h; split at h <;> cases h
  rename_i l7001 n7002 s7003
  exact loop_one hI (sh := z19.l0b6sh) (so := z19.l0b6sh) (F := fun R rec done x => z19.l0b6P l7001 rec done x) (enc := fun (x' : Int) => fillSt z19.l0b6sh [.li l7001, .i x', .li s7003]) [1] [1] n7002 (by kernel_rfl) (by kernel_rfl) (fun x => by kernel_rfl) (fun o => by kernel_rfl) fun R k d x' => z19.l0b6_link R k d l7001 (x') s7003
theorem fun185 : FunOK Tryz.prog 185 Tryz.f185 (ifun Tryz.f185).body := ⟨Tryz.func185, rfl, by kernel_rfl⟩
theorem once185 : loopsOnce (ifun Tryz.f185).body = true := by kernel_rfl
theorem z19.loopsT (hI : InlOK Tryz.prog z19.C fun R => z19.C.inlK 6) : LoopsOK z19.C (fun R => z19.C.inlK 6) 185 0 (ifun Tryz.f185).body := by
  intro id b hm st p hp
  obtain rfl := loopsOnce_mem once185 hm
  unfold z19.C at hp
  simp only at hp
  try split at hp
  all_goals first
    | (simp at hp; done)
    | (exfalso; omega)
    | exact z19.l0b6_sound hI st p hp
theorem z19.hdec : DecOK z19.dec z19.enc := by
  intro v r h
  unfold z19.dec at h; split at h <;> cases h
  exact ⟨rfl, rfl⟩
theorem z19.sound (vs : List V) (p : Pack) (h : z19.pack vs = some p) : SoundC Tryz.prog 185 vs p := by
  unfold z19.pack at h; split at h <;> cases h
  exact loops_sound tab_ok mixed_ok rfl rfl rfl (fun g vs p h => by simp [z19.C] at h) fun185 z19.loopsT rfl (z19.link _) z19.hdec
theorem z20.l0_sound (hI : InlOK Tryz.prog z20.C fun R => z20.C.inlK 6) : LoopS z20.C 6 99 0 0 (loopAt 0 (ifun Tryz.f99).body) z20.l0sh z20.l0pack := by
  refine loopS fun ls p h => ?_
  unfold z20.l0pack at h; split at h <;> cases h
  rename_i carry1001 t1002 t1003 s1004 s1005 s1006 s1007
  exact loop_one hI (sh := z20.l0sh) (so := z20.l0sh) (F := fun R rec done x => z20.l0P t1002 s1004 s1005 rec done x) (enc := fun (x' : (Int × Int × (List Int))) => fillSt z20.l0sh [.i x'.1, .i t1002, .i x'.2.1, .li s1004, .li s1005, .li s1006, .li x'.2.2]) [0, 2, 6] [0, 2, 6] (carry1001, t1003, s1007) (by kernel_rfl) (by kernel_rfl) (fun x => by kernel_rfl) (fun o => by kernel_rfl) fun R k d x' => z20.l0_link R k d (x'.1) t1002 (x'.2.1) s1004 s1005 s1006 (x'.2.2)
theorem fun99 : FunOK Tryz.prog 99 Tryz.f99 (ifun Tryz.f99).body := ⟨Tryz.func99, rfl, by kernel_rfl⟩
theorem once99 : loopsOnce (ifun Tryz.f99).body = true := by kernel_rfl
theorem z20.loopsT (hI : InlOK Tryz.prog z20.C fun R => z20.C.inlK 6) : LoopsOK z20.C (fun R => z20.C.inlK 6) 99 0 (ifun Tryz.f99).body := by
  intro id b hm st p hp
  obtain rfl := loopsOnce_mem once99 hm
  unfold z20.C at hp
  simp only at hp
  try split at hp
  all_goals first
    | (simp at hp; done)
    | (exfalso; omega)
    | exact z20.l0_sound hI st p hp
theorem z20.hdec : DecOK z20.dec z20.enc := by
  intro v r h
  unfold z20.dec at h; split at h <;> cases h
  exact ⟨rfl, rfl⟩
theorem z20.sound (vs : List V) (p : Pack) (h : z20.pack vs = some p) : SoundC Tryz.prog 99 vs p := by
  unfold z20.pack at h; split at h <;> cases h
  exact loops_sound tab_ok mixed_ok rfl rfl rfl (fun g vs p h => by unfold z20.C at h; simp only at h; split at h; exact z18.sound vs p h; exact z0.sound vs p h; exact z19.sound vs p h; simp at h) fun99 z20.loopsT rfl (z20.link _ _) z20.hdec
theorem fun212 : FunOK Tryz.prog 212 Tryz.f212 (ifun Tryz.f212).body := ⟨Tryz.func212, rfl, by kernel_rfl⟩
theorem z21.hdec : DecOK z21.dec z21.enc := by
  intro v r h
  unfold z21.dec at h; split at h <;> cases h
  exact ⟨rfl, rfl⟩
theorem z21.sound (vs : List V) (p : Pack) (h : z21.pack vs = some p) : SoundC Tryz.prog 212 vs p := by
  unfold z21.pack at h; split at h <;> cases h
  exact plain_sound tab_ok mixed_ok rfl rfl rfl rfl (fun g vs p h => by simp [z21.C] at h) fun212 rfl (z21.link _) z21.hdec
theorem fun146 : FunOK Tryz.prog 146 Tryz.f146 (ifun Tryz.f146).body := ⟨Tryz.func146, rfl, by kernel_rfl⟩
theorem z22.hdec : DecOK z22.dec z22.enc := by
  intro v r h
  unfold z22.dec at h; split at h <;> cases h
  exact ⟨rfl, rfl⟩
theorem z22.sound (vs : List V) (p : Pack) (h : z22.pack vs = some p) : SoundC Tryz.prog 146 vs p := by
  unfold z22.pack at h; split at h <;> cases h
  exact plain_sound tab_ok mixed_ok rfl rfl rfl rfl (fun g vs p h => by unfold z22.C at h; simp only at h; split at h; exact z21.sound vs p h; simp at h) fun146 rfl (z22.link _ _) z22.hdec
theorem fun273 : FunOK Tryz.prog 273 Tryz.f273 (ifun Tryz.f273).body := ⟨Tryz.func273, rfl, by kernel_rfl⟩
theorem z23.hdec : DecOK z23.dec z23.enc := by
  intro v r h
  unfold z23.dec at h; split at h <;> cases h
  exact ⟨rfl, rfl⟩
theorem z23.sound (vs : List V) (p : Pack) (h : z23.pack vs = some p) : SoundC Tryz.prog 273 vs p := by
  unfold z23.pack at h; split at h <;> cases h
  exact plain_sound tab_ok mixed_ok rfl rfl rfl rfl (fun g vs p h => by simp [z23.C] at h) fun273 rfl (z23.link _) z23.hdec
theorem fun245 : FunOK Tryz.prog 245 Tryz.f245 (ifun Tryz.f245).body := ⟨Tryz.func245, rfl, by kernel_rfl⟩
theorem z24.hdec : DecOK z24.dec z24.enc := by
  intro v r h
  unfold z24.dec at h; split at h <;> cases h
  exact ⟨rfl, rfl⟩
theorem z24.sound (vs : List V) (p : Pack) (h : z24.pack vs = some p) : SoundC Tryz.prog 245 vs p := by
  unfold z24.pack at h; split at h <;> cases h
  exact plain_sound tab_ok mixed_ok rfl rfl rfl rfl (fun g vs p h => by unfold z24.C at h; simp only at h; split at h; exact z23.sound vs p h; simp at h) fun245 rfl (z24.link _ _) z24.hdec
theorem z25.l0_sound (hI : InlOK Tryz.prog z25.C fun R => z25.C.inlK 6) : LoopS z25.C 6 186 0 0 (loopAt 0 (ifun Tryz.f186).body) z25.l0sh z25.l0pack := by
  refine loopS fun ls p h => ?_
  unfold z25.l0pack at h; split at h <;> cases h
  rename_i t1001 i1002 s1003 s1004
  exact loop_two hI (sh := z25.l0sh) (so := z25.l0sh) (so' := z25.l0so1) (F := fun R rec done x => z25.l0P s1003 s1004 rec done x) (enc := fun (x' : Int) => fillSt z25.l0sh [.i t1001, .i x', .li s1003, .li s1004]) (.exit 0) [1] [1] [0] i1002 (by kernel_rfl) (by kernel_rfl) (fun x => by kernel_rfl) (fun o => by kernel_rfl) (fun o => by kernel_rfl) fun R k d x' => z25.l0_link R k d t1001 (x') s1003 s1004
theorem fun186 : FunOK Tryz.prog 186 Tryz.f186 (ifun Tryz.f186).body := ⟨Tryz.func186, rfl, by kernel_rfl⟩
theorem once186 : loopsOnce (ifun Tryz.f186).body = true := by kernel_rfl
theorem z25.loopsT (hI : InlOK Tryz.prog z25.C fun R => z25.C.inlK 6) : LoopsOK z25.C (fun R => z25.C.inlK 6) 186 0 (ifun Tryz.f186).body := by
  intro id b hm st p hp
  obtain rfl := loopsOnce_mem once186 hm
  unfold z25.C at hp
  simp only at hp
  try split at hp
  all_goals first
    | (simp at hp; done)
    | (exfalso; omega)
    | exact z25.l0_sound hI st p hp
theorem z25.hdec : DecOK z25.dec z25.enc := by
  intro v r h
  unfold z25.dec at h; split at h <;> cases h
  exact ⟨rfl, rfl⟩
theorem z25.sound (vs : List V) (p : Pack) (h : z25.pack vs = some p) : SoundC Tryz.prog 186 vs p := by
  unfold z25.pack at h; split at h <;> cases h
  exact loops_sound tab_ok mixed_ok rfl rfl rfl (fun g vs p h => by unfold z25.C at h; simp only at h; split at h; exact z22.sound vs p h; exact z24.sound vs p h; simp at h) fun186 z25.loopsT rfl (z25.link _ _) z25.hdec
theorem z26.l0_sound (hI : InlOK Tryz.prog z26.C fun R => z26.C.inlK 6) : LoopS z26.C 6 100 0 0 (loopAt 0 (ifun Tryz.f100).body) z26.l0sh z26.l0pack := by
  refine loopS fun ls p h => ?_
  unfold z26.l0pack at h; split at h <;> cases h
  rename_i t1001 borrow1002 t1003 t1004 s1005 s1006 s1007 s1008
  exact loop_one hI (sh := z26.l0sh) (so := z26.l0sh) (F := fun R rec done x => z26.l0P t1003 s1005 s1006 rec done x) (enc := fun (x' : (Int × Int × (List Int))) => fillSt z26.l0sh [.b t1001, .i x'.1, .i t1003, .i x'.2.1, .li s1005, .li s1006, .li s1007, .li x'.2.2]) [1, 3, 7] [1, 3, 7] (borrow1002, t1004, s1008) (by kernel_rfl) (by kernel_rfl) (fun x => by kernel_rfl) (fun o => by kernel_rfl) fun R k d x' => z26.l0_link R k d t1001 (x'.1) t1003 (x'.2.1) s1005 s1006 s1007 (x'.2.2)
theorem fun100 : FunOK Tryz.prog 100 Tryz.f100 (ifun Tryz.f100).body := ⟨Tryz.func100, rfl, by kernel_rfl⟩
theorem once100 : loopsOnce (ifun Tryz.f100).body = true := by kernel_rfl
theorem z26.loopsT (hI : InlOK Tryz.prog z26.C fun R => z26.C.inlK 6) : LoopsOK z26.C (fun R => z26.C.inlK 6) 100 0 (ifun Tryz.f100).body := by
  intro id b hm st p hp
  obtain rfl := loopsOnce_mem once100 hm
  unfold z26.C at hp
  simp only at hp
  try split at hp
  all_goals first
    | (simp at hp; done)
    | (exfalso; omega)
    | exact z26.l0_sound hI st p hp
theorem z26.hdec : DecOK z26.dec z26.enc := by
  intro v r h
  unfold z26.dec at h; split at h <;> cases h
  exact ⟨rfl, rfl⟩
theorem z26.sound (vs : List V) (p : Pack) (h : z26.pack vs = some p) : SoundC Tryz.prog 100 vs p := by
  unfold z26.pack at h; split at h <;> cases h
  exact loops_sound tab_ok mixed_ok rfl rfl rfl (fun g vs p h => by unfold z26.C at h; simp only at h; split at h; exact z25.sound vs p h; exact z18.sound vs p h; exact z1.sound vs p h; exact z19.sound vs p h; simp at h) fun100 z26.loopsT rfl (z26.link _ _) z26.hdec
theorem fun24 : FunOK Tryz.prog 24 Tryz.f24 (ifun Tryz.f24).body := ⟨Tryz.func24, rfl, by kernel_rfl⟩
theorem z27.hdec : DecOK z27.dec z27.enc := by
  intro v r h
  unfold z27.dec at h; split at h <;> cases h
  exact ⟨rfl, rfl⟩
theorem z27.sound (vs : List V) (p : Pack) (h : z27.pack vs = some p) : SoundC Tryz.prog 24 vs p := by
  unfold z27.pack at h; split at h <;> cases h
  exact plain_sound tab_ok mixed_ok rfl rfl rfl rfl (fun g vs p h => by unfold z27.C at h; simp only at h; split at h; exact z20.sound vs p h; exact z17.sound vs p h; exact z26.sound vs p h; simp at h) fun24 rfl (z27.link _ _ _ _) z27.hdec
theorem fun110 : FunOK Tryz.prog 110 Tryz.f110 (ifun Tryz.f110).body := ⟨Tryz.func110, rfl, by kernel_rfl⟩
theorem z28.hdec : DecOK z28.dec z28.enc := by
  intro v r h
  unfold z28.dec at h; split at h <;> cases h
  exact ⟨rfl, rfl⟩
theorem z28.sound (vs : List V) (p : Pack) (h : z28.pack vs = some p) : SoundC Tryz.prog 110 vs p := by
  unfold z28.pack at h; split at h <;> cases h
  exact plain_sound tab_ok mixed_ok rfl rfl rfl rfl (fun g vs p h => by unfold z28.C at h; simp only at h; split at h; exact z17.sound vs p h; simp at h) fun110 rfl (z28.link _ _) z28.hdec
theorem fun90 : FunOK Tryz.prog 90 Tryz.f90 (ifun Tryz.f90).body := ⟨Tryz.func90, rfl, by kernel_rfl⟩
theorem z29.hdec : DecOK z29.dec z29.enc := by
  intro v r h
  unfold z29.dec at h; split at h <;> cases h
  exact ⟨rfl, rfl⟩
theorem z29.sound (vs : List V) (p : Pack) (h : z29.pack vs = some p) : SoundC Tryz.prog 90 vs p := by
  unfold z29.pack at h; split at h <;> cases h
  exact plain_sound tab_ok mixed_ok rfl rfl rfl rfl (fun g vs p h => by unfold z29.C at h; simp only at h; split at h; exact z28.sound vs p h; exact z27.sound vs p h; simp at h) fun90 rfl (z29.link _ _ _ _) z29.hdec
theorem fun74 : FunOK Tryz.prog 74 Tryz.f74 (ifun Tryz.f74).body := ⟨Tryz.func74, rfl, by kernel_rfl⟩
theorem z30.hdec : DecOK z30.dec z30.enc := by
  intro v r h
  unfold z30.dec at h; split at h <;> cases h
  exact ⟨rfl, rfl⟩
theorem z30.sound (vs : List V) (p : Pack) (h : z30.pack vs = some p) : SoundC Tryz.prog 74 vs p := by
  unfold z30.pack at h; split at h <;> cases h
  exact plain_sound tab_ok mixed_ok rfl rfl rfl rfl (fun g vs p h => by unfold z30.C at h; simp only at h; split at h; exact z29.sound vs p h; exact z16.sound vs p h; simp at h) fun74 rfl (z30.link _ _ _ _) z30.hdec
theorem fun260 : FunOK Tryz.prog 260 Tryz.f260 (ifun Tryz.f260).body := ⟨Tryz.func260, rfl, by kernel_rfl⟩
theorem z31.hdec : DecOK z31.dec z31.enc := by
  intro v r h
  unfold z31.dec at h; split at h <;> cases h
  exact ⟨rfl, rfl⟩
theorem z31.sound (vs : List V) (p : Pack) (h : z31.pack vs = some p) : SoundC Tryz.prog 260 vs p := by
  unfold z31.pack at h; split at h <;> cases h
  exact plain_sound tab_ok mixed_ok rfl rfl rfl rfl (fun g vs p h => by simp [z31.C] at h) fun260 rfl (z31.link _ _) z31.hdec
theorem fun223 : FunOK Tryz.prog 223 Tryz.f223 (ifun Tryz.f223).body := ⟨Tryz.func223, rfl, by kernel_rfl⟩
theorem z32.hdec : DecOK z32.dec z32.enc := by
  intro v r h
  unfold z32.dec at h; split at h <;> cases h
  exact ⟨rfl, rfl⟩
theorem z32.sound (vs : List V) (p : Pack) (h : z32.pack vs = some p) : SoundC Tryz.prog 223 vs p := by
  unfold z32.pack at h; split at h <;> cases h
  exact plain_sound tab_ok mixed_ok rfl rfl rfl rfl (fun g vs p h => by unfold z32.C at h; simp only at h; split at h; exact z31.sound vs p h; simp at h) fun223 rfl (z32.link _ _) z32.hdec
theorem fun160 : FunOK Tryz.prog 160 Tryz.f160 (ifun Tryz.f160).body := ⟨Tryz.func160, rfl, by kernel_rfl⟩
theorem z33.hdec : DecOK z33.dec z33.enc := by
  intro v r h
  unfold z33.dec at h; split at h <;> cases h
  exact ⟨rfl, rfl⟩
theorem z33.sound (vs : List V) (p : Pack) (h : z33.pack vs = some p) : SoundC Tryz.prog 160 vs p := by
  unfold z33.pack at h; split at h <;> cases h
  exact plain_sound tab_ok mixed_ok rfl rfl rfl rfl (fun g vs p h => by unfold z33.C at h; simp only at h; split at h; exact z32.sound vs p h; simp at h) fun160 rfl (z33.link _ _) z33.hdec
theorem fun158 : FunOK Tryz.prog 158 Tryz.f158 (ifun Tryz.f158).body := ⟨Tryz.func158, rfl, by kernel_rfl⟩
theorem prim222 : SoundP Tryz.prog 222 (cloneP (.ints true .u64 []) 79 8) := clone_sound (C := tabC) tab_ok (f := Tryz.f222) (t := 35) ⟨Tryz.func222, rfl, by kernel_rfl⟩ rfl (by decide) (by kernel_rfl) (by kernel_rfl) (by kernel_rfl) (by decide) (by kernel_rfl) rfl rfl (by kernel_rfl)
theorem z34.inlF : InlF Tryz.prog z34.C where
  prim g h hp := by
    unfold z34.C at hp; simp only at hp; split at hp
    · simp only [Option.some.injEq] at hp; subst hp; exact prim222
    · simp at hp
  fn g fn h := by simp [z34.C] at h
  loops g fn h := by simp [z34.C] at h
theorem z34.hdec : DecOK z34.dec z34.enc := by
  intro v r h
  unfold z34.dec at h; split at h <;> cases h
  exact ⟨rfl, rfl⟩
theorem z34.sound (vs : List V) (p : Pack) (h : z34.pack vs = some p) : SoundC Tryz.prog 158 vs p := by
  unfold z34.pack at h; split at h <;> cases h
  exact full_sound tab_ok mixed_ok rfl (fun g vs p h => by unfold z34.C at h; simp only at h; split at h; exact z19.sound vs p h; simp at h) z34.inlF fun158 (fun _ => noLoops rfl _ _ _ _) rfl (z34.link _) z34.hdec
theorem fun268 : FunOK Tryz.prog 268 Tryz.f268 (ifun Tryz.f268).body := ⟨Tryz.func268, rfl, by kernel_rfl⟩
theorem z35.hdec : DecOK z35.dec z35.enc := by
  intro v r h
  unfold z35.dec at h; split at h <;> cases h
  exact ⟨rfl, rfl⟩
theorem z35.sound (vs : List V) (p : Pack) (h : z35.pack vs = some p) : SoundC Tryz.prog 268 vs p := by
  unfold z35.pack at h; split at h <;> cases h
  exact plain_sound tab_ok mixed_ok rfl rfl rfl rfl (fun g vs p h => by simp [z35.C] at h) fun268 rfl (z35.link _ _) z35.hdec
theorem z36.l0a_sound (hI : InlOK Tryz.prog z36.C fun R => z36.C.inlK 0) : LoopS z36.C 0 227 0 4 (loopAt 0 (ifun Tryz.f227).body) z36.l0ash z36.l0apack := by
  refine loopS fun ls p h => ?_
  unfold z36.l0apack at h; split at h <;> cases h
  rename_i x2001 l2002 l2003 carry2004 t2005 t2006 t2007 s2008 s2009 s2010 s2011
  exact loop_one hI (sh := z36.l0ash) (so := z36.l0ash) (F := fun R rec done x => z36.l0aP x2001 l2002 l2003 t2005 t2006 rec done x) (enc := fun (x' : (Int × Int × (List Int))) => fillSt z36.l0ash [.i x2001, .n l2002, .n l2003, .i x'.1, .li t2005, .i t2006, .i x'.2.1, .li s2008, .li s2009, .li x'.2.2, .li s2011]) [3, 6, 9] [3, 6, 9] (carry2004, t2007, s2010) (by kernel_rfl) (by kernel_rfl) (fun x => by kernel_rfl) (fun o => by kernel_rfl) fun R k d x' => z36.l0a_link R k d x2001 l2002 l2003 (x'.1) t2005 t2006 (x'.2.1) s2008 s2009 (x'.2.2) s2011
theorem z36.l0_sound (hI : InlOK Tryz.prog z36.C fun R => z36.C.inlK 6) : LoopS z36.C 6 164 0 0 (loopAt 0 (ifun Tryz.f164).body) z36.l0sh z36.l0pack := by
  refine loopS fun ls p h => ?_
  unfold z36.l0pack at h; split at h <;> cases h
  rename_i t1001 t1002 t1003 s1004 s1005 s1006
  exact loop_one hI (sh := z36.l0sh) (so := z36.l0sh) (F := fun R rec done x => z36.l0P t1001 t1002 s1004 rec done x) (enc := fun (x' : (Int × (List Int))) => fillSt z36.l0sh [.li t1001, .i t1002, .i x'.1, .li s1004, .li s1005, .li x'.2]) [2, 5] [2, 5] (t1003, s1006) (by kernel_rfl) (by kernel_rfl) (fun x => by kernel_rfl) (fun o => by kernel_rfl) fun R k d x' => z36.l0_link R k d t1001 t1002 (x'.1) s1004 s1005 (x'.2)
theorem fun164 : FunOK Tryz.prog 164 Tryz.f164 (ifun Tryz.f164).body := ⟨Tryz.func164, rfl, by kernel_rfl⟩
theorem once164 : loopsOnce (ifun Tryz.f164).body = true := by kernel_rfl
theorem fun227 : FunOK Tryz.prog 227 Tryz.f227 (ifun Tryz.f227).body := ⟨Tryz.func227, rfl, by kernel_rfl⟩
theorem once227 : loopsOnce (ifun Tryz.f227).body = true := by kernel_rfl
theorem z36.loopsT (hI : InlOK Tryz.prog z36.C fun R => z36.C.inlK 6) : LoopsOK z36.C (fun R => z36.C.inlK 6) 164 0 (ifun Tryz.f164).body := by
  intro id b hm st p hp
  obtain rfl := loopsOnce_mem once164 hm
  unfold z36.C at hp
  simp only at hp
  try split at hp
  all_goals first
    | (simp at hp; done)
    | (exfalso; omega)
    | exact z36.l0_sound hI st p hp
theorem z36.loops227 (hI : InlOK Tryz.prog z36.C fun R => z36.C.inlK 0) (base : Nat) : LoopsOK z36.C (fun R => z36.C.inlK 0) 227 base (ifun Tryz.f227).body := by
  intro id b hm st p hp
  obtain rfl := loopsOnce_mem once227 hm
  unfold z36.C at hp
  simp only at hp
  try split at hp
  all_goals first
    | (simp at hp; done)
    | (exfalso; omega)
    | exact z36.l0a_sound hI st p hp
theorem z36.inlF : InlF Tryz.prog z36.C where
  prim g h hp := by simp [z36.C] at hp
  fn g fn h := by
    unfold z36.C at h; simp only at h; split at h
    · simp only [Option.some.injEq] at h; subst h; exact ⟨_, _, fun227, rfl⟩
    · simp at h
  loops g fn h := by
    unfold z36.C at h; simp only at h; split at h
    · simp only [Option.some.injEq] at h; subst h; exact fun hI base => z36.loops227 hI base
    · simp at h
theorem z36.hdec : DecOK z36.dec z36.enc := by
  intro v r h
  unfold z36.dec at h; split at h <;> cases h
  exact ⟨rfl, rfl⟩
theorem z36.sound (vs : List V) (p : Pack) (h : z36.pack vs = some p) : SoundC Tryz.prog 164 vs p := by
  unfold z36.pack at h; split at h <;> cases h
  exact full_sound tab_ok mixed_ok rfl (fun g vs p h => by unfold z36.C at h; simp only at h; split at h; exact z35.sound vs p h; exact z0.sound vs p h; exact z19.sound vs p h; simp at h) z36.inlF fun164 z36.loopsT rfl (z36.link _ _) z36.hdec
theorem z37.l2_sound (hI : InlOK Tryz.prog z37.C fun R => z37.C.inlK 6) : LoopS z37.C 6 161 2 0 (loopAt 2 (ifun Tryz.f161).body) z37.l2sh z37.l2pack := by
  refine loopS fun ls p h => ?_
  unfold z37.l2pack at h; split at h <;> cases h
  rename_i s2001 t2002 k2003 part2004 s2005 s2006 s2007 s2008
  exact loop_one hI (sh := z37.l2sh) (so := z37.l2sh) (F := fun R rec done x => z37.l2P s2007 rec done x) (enc := fun (x' : (Int × Nat)) => fillSt z37.l2sh [.s s2001, .i t2002, .i k2003, .i x'.1, .li s2005, .li s2006, .s s2007, .n x'.2]) [3, 7] [3, 7] (part2004, s2008) (by kernel_rfl) (by kernel_rfl) (fun x => by kernel_rfl) (fun o => by kernel_rfl) fun R k d x' => z37.l2_link R k d s2001 t2002 k2003 (x'.1) s2005 s2006 s2007 (x'.2)
theorem z37.l2a_sound (hI : InlOK Tryz.prog z37.C fun R => z37.C.inlK 6) : LoopS z37.C 6 161 2 0 (loopAt 2 (ifun Tryz.f161).body) z37.l2ash z37.l2apack := by
  refine loopS fun ls p h => ?_
  unfold z37.l2apack at h; split at h <;> cases h
  rename_i s3001 t3002 k3003 part3004 t3005 t3006 s3007 s3008 s3009 s3010
  exact loop_one hI (sh := z37.l2ash) (so := z37.l2ash) (F := fun R rec done x => z37.l2aP s3009 rec done x) (enc := fun (x' : (Int × Nat)) => fillSt z37.l2ash [.s s3001, .i t3002, .i k3003, .i x'.1, .i t3005, .b t3006, .li s3007, .li s3008, .s s3009, .n x'.2]) [3, 9] [3, 9] (part3004, s3010) (by kernel_rfl) (by kernel_rfl) (fun x => by kernel_rfl) (fun o => by kernel_rfl) fun R k d x' => z37.l2a_link R k d s3001 t3002 k3003 (x'.1) t3005 t3006 s3007 s3008 s3009 (x'.2)
theorem z37.l0aa_sound (hI : InlOK Tryz.prog z37.C fun R => z37.C.inlK 6) : LoopS z37.C 6 161 0 0 (loopAt 0 (ifun Tryz.f161).body) z37.l0aash z37.l0aapack := by
  refine loopS fun ls p h => ?_
  unfold z37.l0aapack at h; split at h <;> cases h
  rename_i s5001 t5002 first5003 s5004 s5005
  exact loop_one hI (sh := z37.l0aash) (so := z37.l0aash) (F := fun R rec done x => z37.l0aaP  rec done x) (enc := fun (x' : ((List UInt8) × Bool × (List Int))) => fillSt z37.l0aash [.s x'.1, .i t5002, .b x'.2.1, .li s5004, .li x'.2.2]) [0, 2, 4] [0, 2, 4] (s5001, first5003, s5005) (by kernel_rfl) (by kernel_rfl) (fun x => by kernel_rfl) (fun o => by kernel_rfl) fun R k d x' => z37.l0aa_link R k d (x'.1) t5002 (x'.2.1) s5004 (x'.2.2)
theorem fun161 : FunOK Tryz.prog 161 Tryz.f161 (ifun Tryz.f161).body := ⟨Tryz.func161, rfl, by kernel_rfl⟩
theorem once161 : loopsOnce (ifun Tryz.f161).body = true := by kernel_rfl
theorem z37.loopsT (hI : InlOK Tryz.prog z37.C fun R => z37.C.inlK 6) : LoopsOK z37.C (fun R => z37.C.inlK 6) 161 0 (ifun Tryz.f161).body := by
  intro id b hm st p hp
  obtain rfl := loopsOnce_mem once161 hm
  unfold z37.C at hp
  simp only at hp
  try split at hp
  all_goals first
    | (simp at hp; done)
    | (exfalso; omega)
    | exact (orP_some hp).elim (fun h => z37.l2_sound hI st p h) (fun h => z37.l2a_sound hI st p h)
    | exact z37.l0aa_sound hI st p hp
theorem z37.hdec : DecOK z37.dec z37.enc := by
  intro v r h
  unfold z37.dec at h; split at h <;> cases h
  exact ⟨rfl, rfl⟩
theorem z37.sound (vs : List V) (p : Pack) (h : z37.pack vs = some p) : SoundC Tryz.prog 161 vs p := by
  unfold z37.pack at h; split at h <;> cases h
  exact loops_sound tab_ok mixed_ok rfl rfl rfl (fun g vs p h => by unfold z37.C at h; simp only at h; split at h; exact z3.sound vs p h; exact z34.sound vs p h; exact z36.sound vs p h; exact z20.sound vs p h; simp at h) fun161 z37.loopsT rfl (z37.link _) z37.hdec
theorem fun76 : FunOK Tryz.prog 76 Tryz.f76 (ifun Tryz.f76).body := ⟨Tryz.func76, rfl, by kernel_rfl⟩
theorem z38.hdec : DecOK z38.dec z38.enc := by
  intro v r h
  unfold z38.dec at h; split at h <;> cases h
  exact ⟨rfl, rfl⟩
theorem z38.sound (vs : List V) (p : Pack) (h : z38.pack vs = some p) : SoundC Tryz.prog 76 vs p := by
  unfold z38.pack at h; split at h <;> cases h
  exact plain_sound tab_ok mixed_ok rfl rfl rfl rfl (fun g vs p h => by unfold z38.C at h; simp only at h; split at h; exact z33.sound vs p h; exact z37.sound vs p h; exact z15.sound vs p h; exact z17.sound vs p h; simp at h) fun76 rfl (z38.link _) z38.hdec
theorem z39.l0_sound (hI : InlOK Tryz.prog z39.C fun R => z39.C.inlK 6) : LoopS z39.C 6 247 0 0 (loopAt 0 (ifun Tryz.f247).body) z39.l0sh z39.l0pack := by
  refine loopS fun ls p h => ?_
  unfold z39.l0pack at h; split at h <;> cases h
  rename_i times1001 s1002 s1003 s1004
  exact loop_one hI (sh := z39.l0sh) (so := z39.l0sh) (F := fun R rec done x => z39.l0P  rec done x) (enc := fun (x' : (Int × (List Int) × (List Int))) => fillSt z39.l0sh [.i x'.1, .li x'.2.1, .li s1003, .li x'.2.2]) [0, 1, 3] [0, 1, 3] (times1001, s1002, s1004) (by kernel_rfl) (by kernel_rfl) (fun x => by kernel_rfl) (fun o => by kernel_rfl) fun R k d x' => z39.l0_link R k d (x'.1) (x'.2.1) s1003 (x'.2.2)
theorem fun247 : FunOK Tryz.prog 247 Tryz.f247 (ifun Tryz.f247).body := ⟨Tryz.func247, rfl, by kernel_rfl⟩
theorem once247 : loopsOnce (ifun Tryz.f247).body = true := by kernel_rfl
theorem z39.loopsT (hI : InlOK Tryz.prog z39.C fun R => z39.C.inlK 6) : LoopsOK z39.C (fun R => z39.C.inlK 6) 247 0 (ifun Tryz.f247).body := by
  intro id b hm st p hp
  obtain rfl := loopsOnce_mem once247 hm
  unfold z39.C at hp
  simp only at hp
  try split at hp
  all_goals first
    | (simp at hp; done)
    | (exfalso; omega)
    | exact z39.l0_sound hI st p hp
theorem z39.hdec : DecOK z39.dec z39.enc := by
  intro v r h
  unfold z39.dec at h; split at h <;> cases h
  exact ⟨rfl, rfl⟩
theorem z39.sound (vs : List V) (p : Pack) (h : z39.pack vs = some p) : SoundC Tryz.prog 247 vs p := by
  unfold z39.pack at h; split at h <;> cases h
  exact loops_sound tab_ok mixed_ok rfl rfl rfl (fun g vs p h => by unfold z39.C at h; simp only at h; split at h; exact z34.sound vs p h; exact z36.sound vs p h; simp at h) fun247 z39.loopsT rfl (z39.link _ _) z39.hdec
theorem fun195 : FunOK Tryz.prog 195 Tryz.f195 (ifun Tryz.f195).body := ⟨Tryz.func195, rfl, by kernel_rfl⟩
theorem z40.hdec : DecOK z40.dec z40.enc := by
  intro v r h
  unfold z40.dec at h; split at h <;> cases h
  exact ⟨rfl, rfl⟩
theorem z40.sound (vs : List V) (p : Pack) (h : z40.pack vs = some p) : SoundC Tryz.prog 195 vs p := by
  unfold z40.pack at h; split at h <;> cases h
  exact plain_sound tab_ok mixed_ok rfl rfl rfl rfl (fun g vs p h => by unfold z40.C at h; simp only at h; split at h; exact z34.sound vs p h; exact z39.sound vs p h; simp at h) fun195 rfl (z40.link _) z40.hdec
theorem fun114 : FunOK Tryz.prog 114 Tryz.f114 (ifun Tryz.f114).body := ⟨Tryz.func114, rfl, by kernel_rfl⟩
theorem z41.hdec : DecOK z41.dec z41.enc := by
  intro v r h
  unfold z41.dec at h; split at h <;> cases h
  exact ⟨rfl, rfl⟩
theorem z41.sound (vs : List V) (p : Pack) (h : z41.pack vs = some p) : SoundC Tryz.prog 114 vs p := by
  unfold z41.pack at h; split at h <;> cases h
  exact plain_sound tab_ok mixed_ok rfl rfl rfl rfl (fun g vs p h => by unfold z41.C at h; simp only at h; split at h; exact z40.sound vs p h; exact z17.sound vs p h; simp at h) fun114 rfl z41.link z41.hdec
theorem fun36 : FunOK Tryz.prog 36 Tryz.f36 (ifun Tryz.f36).body := ⟨Tryz.func36, rfl, by kernel_rfl⟩
theorem z42.hdec : DecOK z42.dec z42.enc := by
  intro v r h
  unfold z42.dec at h; split at h <;> cases h
  exact ⟨rfl, rfl⟩
theorem z42.sound (vs : List V) (p : Pack) (h : z42.pack vs = some p) : SoundC Tryz.prog 36 vs p := by
  unfold z42.pack at h; split at h <;> cases h
  exact plain_sound tab_ok mixed_ok rfl rfl rfl rfl (fun g vs p h => by unfold z42.C at h; simp only at h; split at h; exact z38.sound vs p h; exact z16.sound vs p h; exact z41.sound vs p h; exact z30.sound vs p h; simp at h) fun36 rfl (z42.link _) z42.hdec
theorem fun68 : FunOK Tryz.prog 68 Tryz.f68 (ifun Tryz.f68).body := ⟨Tryz.func68, rfl, by kernel_rfl⟩
theorem z43.hdec : DecOK z43.dec z43.enc := by
  intro v r h
  unfold z43.dec at h; split at h <;> cases h
  exact ⟨rfl, rfl⟩
theorem z43.sound (vs : List V) (p : Pack) (h : z43.pack vs = some p) : SoundC Tryz.prog 68 vs p := by
  unfold z43.pack at h; split at h <;> cases h
  exact plain_sound tab_ok mixed_ok rfl rfl rfl rfl (fun g vs p h => by simp [z43.C] at h) fun68 rfl (z43.link _ _) z43.hdec
theorem fun69 : FunOK Tryz.prog 69 Tryz.f69 (ifun Tryz.f69).body := ⟨Tryz.func69, rfl, by kernel_rfl⟩
theorem z44.hdec : DecOK z44.dec z44.enc := by
  intro v r h
  unfold z44.dec at h; split at h <;> cases h
  exact ⟨rfl, rfl⟩
theorem z44.sound (vs : List V) (p : Pack) (h : z44.pack vs = some p) : SoundC Tryz.prog 69 vs p := by
  unfold z44.pack at h; split at h <;> cases h
  exact plain_sound tab_ok mixed_ok rfl rfl rfl rfl (fun g vs p h => by unfold z44.C at h; simp only at h; split at h; exact z34.sound vs p h; exact z17.sound vs p h; simp at h) fun69 rfl (z44.link _) z44.hdec
theorem fun199 : FunOK Tryz.prog 199 Tryz.f199 (ifun Tryz.f199).body := ⟨Tryz.func199, rfl, by kernel_rfl⟩
theorem z45.hdec : DecOK z45.dec z45.enc := by
  intro v r h
  unfold z45.dec at h; split at h <;> cases h
  exact ⟨rfl, rfl⟩
theorem z45.sound (vs : List V) (p : Pack) (h : z45.pack vs = some p) : SoundC Tryz.prog 199 vs p := by
  unfold z45.pack at h; split at h <;> cases h
  exact plain_sound tab_ok mixed_ok rfl rfl rfl rfl (fun g vs p h => by unfold z45.C at h; simp only at h; split at h; exact z3.sound vs p h; simp at h) fun199 rfl (z45.link _) z45.hdec
theorem fun118 : FunOK Tryz.prog 118 Tryz.f118 (ifun Tryz.f118).body := ⟨Tryz.func118, rfl, by kernel_rfl⟩
theorem fun198 : FunOK Tryz.prog 198 Tryz.f198 (ifun Tryz.f198).body := ⟨Tryz.func198, rfl, by kernel_rfl⟩
theorem fun248 : FunOK Tryz.prog 248 Tryz.f248 (ifun Tryz.f248).body := ⟨Tryz.func248, rfl, by kernel_rfl⟩
theorem fun275 : FunOK Tryz.prog 275 Tryz.f275 (ifun Tryz.f275).body := ⟨Tryz.func275, rfl, by kernel_rfl⟩
theorem fun283 : FunOK Tryz.prog 283 Tryz.f283 (ifun Tryz.f283).body := ⟨Tryz.func283, rfl, by kernel_rfl⟩
theorem z46.inlF : InlF Tryz.prog z46.C where
  prim g h hp := by simp [z46.C] at hp
  fn g fn h := by
    unfold z46.C at h; simp only at h; split at h
    · simp only [Option.some.injEq] at h; subst h; exact ⟨_, _, fun198, rfl⟩
    · simp only [Option.some.injEq] at h; subst h; exact ⟨_, _, fun248, rfl⟩
    · simp only [Option.some.injEq] at h; subst h; exact ⟨_, _, fun275, rfl⟩
    · simp only [Option.some.injEq] at h; subst h; exact ⟨_, _, fun283, rfl⟩
    · simp at h
  loops g fn h := by
    unfold z46.C at h; simp only at h; split at h
    · simp only [Option.some.injEq] at h; subst h; exact fun hI base => noLoops rfl _ _ _ _
    · simp only [Option.some.injEq] at h; subst h; exact fun hI base => noLoops rfl _ _ _ _
    · simp only [Option.some.injEq] at h; subst h; exact fun hI base => noLoops rfl _ _ _ _
    · simp only [Option.some.injEq] at h; subst h; exact fun hI base => noLoops rfl _ _ _ _
    · simp at h
theorem z46.hdec : DecOK z46.dec z46.enc := by
  intro v r h
  unfold z46.dec at h; split at h <;> cases h
  exact ⟨rfl, rfl⟩
theorem z46.sound (vs : List V) (p : Pack) (h : z46.pack vs = some p) : SoundC Tryz.prog 118 vs p := by
  unfold z46.pack at h; split at h <;> cases h
  exact full_sound tab_ok mixed_ok rfl (fun g vs p h => by unfold z46.C at h; simp only at h; split at h; exact z33.sound vs p h; exact z45.sound vs p h; exact z3.sound vs p h; exact z4.sound vs p h; exact z37.sound vs p h; exact z17.sound vs p h; exact z2.sound vs p h; simp at h) z46.inlF fun118 (fun _ => noLoops rfl _ _ _ _) rfl (z46.link _) z46.hdec
theorem fun202 : FunOK Tryz.prog 202 Tryz.f202 (ifun Tryz.f202).body := ⟨Tryz.func202, rfl, by kernel_rfl⟩
theorem z47.hdec : DecOK z47.dec z47.enc := by
  intro v r h
  unfold z47.dec at h; split at h <;> cases h
  exact ⟨rfl, rfl⟩
theorem z47.sound (vs : List V) (p : Pack) (h : z47.pack vs = some p) : SoundC Tryz.prog 202 vs p := by
  unfold z47.pack at h; split at h <;> cases h
  exact plain_sound tab_ok mixed_ok rfl rfl rfl rfl (fun g vs p h => by simp [z47.C] at h) fun202 rfl (z47.link _) z47.hdec
theorem fun119 : FunOK Tryz.prog 119 Tryz.f119 (ifun Tryz.f119).body := ⟨Tryz.func119, rfl, by kernel_rfl⟩
theorem z48.hdec : DecOK z48.dec z48.enc := by
  intro v r h
  unfold z48.dec at h; split at h <;> cases h
  exact ⟨rfl, rfl⟩
theorem z48.sound (vs : List V) (p : Pack) (h : z48.pack vs = some p) : SoundC Tryz.prog 119 vs p := by
  unfold z48.pack at h; split at h <;> cases h
  exact plain_sound tab_ok mixed_ok rfl rfl rfl rfl (fun g vs p h => by unfold z48.C at h; simp only at h; split at h; exact z47.sound vs p h; simp at h) fun119 rfl (z48.link _ _ _) z48.hdec
theorem fun120 : FunOK Tryz.prog 120 Tryz.f120 (ifun Tryz.f120).body := ⟨Tryz.func120, rfl, by kernel_rfl⟩
theorem z49.hdec : DecOK z49.dec z49.enc := by
  intro v r h
  unfold z49.dec at h; split at h <;> cases h
  exact ⟨rfl, rfl⟩
theorem z49.sound (vs : List V) (p : Pack) (h : z49.pack vs = some p) : SoundC Tryz.prog 120 vs p := by
  unfold z49.pack at h; split at h <;> cases h
  exact plain_sound tab_ok mixed_ok rfl rfl rfl rfl (fun g vs p h => by simp [z49.C] at h) fun120 rfl (z49.link _ _ _) z49.hdec
theorem fun156 : FunOK Tryz.prog 156 Tryz.f156 (ifun Tryz.f156).body := ⟨Tryz.func156, rfl, by kernel_rfl⟩
theorem z50.hdec : DecOK z50.dec z50.enc := by
  intro v r h
  unfold z50.dec at h; split at h <;> cases h
  exact ⟨rfl, rfl⟩
theorem z50.sound (vs : List V) (p : Pack) (h : z50.pack vs = some p) : SoundC Tryz.prog 156 vs p := by
  unfold z50.pack at h; split at h <;> cases h
  exact plain_sound tab_ok mixed_ok rfl rfl rfl rfl (fun g vs p h => by unfold z50.C at h; simp only at h; split at h; exact z36.sound vs p h; exact z17.sound vs p h; simp at h) fun156 rfl (z50.link _ _ _ _) z50.hdec
theorem fun204 : FunOK Tryz.prog 204 Tryz.f204 (ifun Tryz.f204).body := ⟨Tryz.func204, rfl, by kernel_rfl⟩
theorem z51.hdec : DecOK z51.dec z51.enc := by
  intro v r h
  unfold z51.dec at h; split at h <;> cases h
  exact ⟨rfl, rfl⟩
theorem z51.sound (vs : List V) (p : Pack) (h : z51.pack vs = some p) : SoundC Tryz.prog 204 vs p := by
  unfold z51.pack at h; split at h <;> cases h
  exact plain_sound tab_ok mixed_ok rfl rfl rfl rfl (fun g vs p h => by unfold z51.C at h; simp only at h; split at h; exact z40.sound vs p h; exact z17.sound vs p h; simp at h) fun204 rfl (z51.link _) z51.hdec
theorem fun203 : FunOK Tryz.prog 203 Tryz.f203 (ifun Tryz.f203).body := ⟨Tryz.func203, rfl, by kernel_rfl⟩
theorem z52.hdec : DecOK z52.dec z52.enc := by
  intro v r h
  unfold z52.dec at h; split at h <;> cases h
  exact ⟨rfl, rfl⟩
theorem z52.sound (vs : List V) (p : Pack) (h : z52.pack vs = some p) : SoundC Tryz.prog 203 vs p := by
  unfold z52.pack at h; split at h <;> cases h
  exact plain_sound tab_ok mixed_ok rfl rfl rfl rfl (fun g vs p h => by unfold z52.C at h; simp only at h; split at h; exact z51.sound vs p h; exact z50.sound vs p h; simp at h) fun203 rfl (z52.link _ _ _ _) z52.hdec
theorem fun121 : FunOK Tryz.prog 121 Tryz.f121 (ifun Tryz.f121).body := ⟨Tryz.func121, rfl, by kernel_rfl⟩
theorem z53.hdec : DecOK z53.dec z53.enc := by
  intro v r h
  unfold z53.dec at h; split at h <;> cases h
  exact ⟨rfl, rfl⟩
theorem z53.sound (vs : List V) (p : Pack) (h : z53.pack vs = some p) : SoundC Tryz.prog 121 vs p := by
  unfold z53.pack at h; split at h <;> cases h
  exact plain_sound tab_ok mixed_ok rfl rfl rfl rfl (fun g vs p h => by unfold z53.C at h; simp only at h; split at h; exact z52.sound vs p h; exact z30.sound vs p h; simp at h) fun121 rfl (z53.link _ _ _ _ _ _) z53.hdec
theorem fun122 : FunOK Tryz.prog 122 Tryz.f122 (ifun Tryz.f122).body := ⟨Tryz.func122, rfl, by kernel_rfl⟩
theorem z54.hdec : DecOK z54.dec z54.enc := by
  intro v r h
  unfold z54.dec at h; split at h <;> cases h
  exact ⟨rfl, rfl⟩
theorem z54.sound (vs : List V) (p : Pack) (h : z54.pack vs = some p) : SoundC Tryz.prog 122 vs p := by
  unfold z54.pack at h; split at h <;> cases h
  exact plain_sound tab_ok mixed_ok rfl rfl rfl rfl (fun g vs p h => by simp [z54.C] at h) fun122 rfl (z54.link _ _ _) z54.hdec
theorem fun92 : FunOK Tryz.prog 92 Tryz.f92 (ifun Tryz.f92).body := ⟨Tryz.func92, rfl, by kernel_rfl⟩
theorem z55.hdec : DecOK z55.dec z55.enc := by
  intro v r h
  unfold z55.dec at h; split at h <;> cases h
  exact ⟨rfl, rfl⟩
theorem z55.sound (vs : List V) (p : Pack) (h : z55.pack vs = some p) : SoundC Tryz.prog 92 vs p := by
  unfold z55.pack at h; split at h <;> cases h
  exact plain_sound tab_ok mixed_ok rfl rfl rfl rfl (fun g vs p h => by simp [z55.C] at h) fun92 rfl (z55.link _ _) z55.hdec
theorem fun188 : FunOK Tryz.prog 188 Tryz.f188 (ifun Tryz.f188).body := ⟨Tryz.func188, rfl, by kernel_rfl⟩
theorem z56.inlF : InlF Tryz.prog z56.C where
  prim g h hp := by
    unfold z56.C at hp; simp only at hp; split at hp
    · simp only [Option.some.injEq] at hp; subst hp; exact prim222
    · simp at hp
  fn g fn h := by simp [z56.C] at h
  loops g fn h := by simp [z56.C] at h
theorem z56.hdec : DecOK z56.dec z56.enc := by
  intro v r h
  unfold z56.dec at h; split at h <;> cases h
  exact ⟨rfl, rfl⟩
theorem z56.sound (vs : List V) (p : Pack) (h : z56.pack vs = some p) : SoundC Tryz.prog 188 vs p := by
  unfold z56.pack at h; split at h <;> cases h
  exact full_sound tab_ok mixed_ok rfl (fun g vs p h => by simp [z56.C] at h) z56.inlF fun188 (fun _ => noLoops rfl _ _ _ _) rfl (z56.link _) z56.hdec
theorem fun280 : FunOK Tryz.prog 280 Tryz.f280 (ifun Tryz.f280).body := ⟨Tryz.func280, rfl, by kernel_rfl⟩
theorem z57.hdec : DecOK z57.dec z57.enc := by
  intro v r h
  unfold z57.dec at h; split at h <;> cases h
  exact ⟨rfl, rfl⟩
theorem z57.sound (vs : List V) (p : Pack) (h : z57.pack vs = some p) : SoundC Tryz.prog 280 vs p := by
  unfold z57.pack at h; split at h <;> cases h
  exact plain_sound tab_ok mixed_ok rfl rfl rfl rfl (fun g vs p h => by simp [z57.C] at h) fun280 rfl (z57.link _) z57.hdec
theorem fun262 : FunOK Tryz.prog 262 Tryz.f262 (ifun Tryz.f262).body := ⟨Tryz.func262, rfl, by kernel_rfl⟩
theorem z58.hdec : DecOK z58.dec z58.enc := by
  intro v r h
  unfold z58.dec at h; split at h <;> cases h
  exact ⟨rfl, rfl⟩
theorem z58.sound (vs : List V) (p : Pack) (h : z58.pack vs = some p) : SoundC Tryz.prog 262 vs p := by
  unfold z58.pack at h; split at h <;> cases h
  exact plain_sound tab_ok mixed_ok rfl rfl rfl rfl (fun g vs p h => by unfold z58.C at h; simp only at h; split at h; exact z57.sound vs p h; simp at h) fun262 rfl (z58.link _) z58.hdec
theorem z59.l0b8_sound (hI : InlOK Tryz.prog z59.C fun R => z59.C.inlK 6) : LoopS z59.C 6 261 0 0 (loopAt 0 (ifun Tryz.f261).body) z59.l0b8sh z59.l0b8pack := by
  refine loopS fun ls p h => ?_
  unfold z59.l0b8pack at h; split at h <;> cases h
  rename_i y9001 quo9002 rem9003 s9004 yn9005 yn9006 un9007 un9008 un9009 q9010 rhat9011
  exact loop_one hI (sh := z59.l0b8sh) (so := z59.l0b8sh) (F := fun R rec done x => z59.l0b8P yn9005 yn9006 un9008 rec done x) (enc := fun (x' : (Int × Int)) => fillSt z59.l0b8sh [.i y9001, .i quo9002, .i rem9003, .i s9004, .i yn9005, .i yn9006, .i un9007, .i un9008, .i un9009, .i x'.1, .i x'.2]) [9, 10] [9, 10] (q9010, rhat9011) (by kernel_rfl) (by kernel_rfl) (fun x => by kernel_rfl) (fun o => by kernel_rfl) fun R k d x' => z59.l0b8_link R k d y9001 quo9002 rem9003 s9004 yn9005 yn9006 un9007 un9008 un9009 (x'.1) (x'.2)
theorem z59.l2b8_sound (hI : InlOK Tryz.prog z59.C fun R => z59.C.inlK 6) : LoopS z59.C 6 261 2 0 (loopAt 2 (ifun Tryz.f261).body) z59.l2b8sh z59.l2b8pack := by
  refine loopS fun ls p h => ?_
  unfold z59.l2b8pack at h; split at h <;> cases h
  rename_i y18001 quo18002 rem18003 s18004 yn18005 yn18006 un18007 q18008 rhat18009 un18010 q18011
  exact loop_one hI (sh := z59.l2b8sh) (so := z59.l2b8sh) (F := fun R rec done x => z59.l2b8P yn18005 yn18006 un18007 rec done x) (enc := fun (x' : (Int × Int)) => fillSt z59.l2b8sh [.i y18001, .i quo18002, .i rem18003, .i s18004, .i yn18005, .i yn18006, .i un18007, .i q18008, .i x'.1, .i un18010, .i x'.2]) [8, 10] [8, 10] (rhat18009, q18011) (by kernel_rfl) (by kernel_rfl) (fun x => by kernel_rfl) (fun o => by kernel_rfl) fun R k d x' => z59.l2b8_link R k d y18001 quo18002 rem18003 s18004 yn18005 yn18006 un18007 q18008 (x'.1) un18010 (x'.2)
theorem fun261 : FunOK Tryz.prog 261 Tryz.f261 (ifun Tryz.f261).body := ⟨Tryz.func261, rfl, by kernel_rfl⟩
theorem once261 : loopsOnce (ifun Tryz.f261).body = true := by kernel_rfl
theorem z59.loopsT (hI : InlOK Tryz.prog z59.C fun R => z59.C.inlK 6) : LoopsOK z59.C (fun R => z59.C.inlK 6) 261 0 (ifun Tryz.f261).body := by
  intro id b hm st p hp
  obtain rfl := loopsOnce_mem once261 hm
  unfold z59.C at hp
  simp only at hp
  try split at hp
  all_goals first
    | (simp at hp; done)
    | (exfalso; omega)
    | exact z59.l0b8_sound hI st p hp
    | exact z59.l2b8_sound hI st p hp
theorem z59.hdec : DecOK z59.dec z59.enc := by
  intro v r h
  unfold z59.dec at h; split at h <;> cases h
  exact ⟨rfl, rfl⟩
theorem z59.sound (vs : List V) (p : Pack) (h : z59.pack vs = some p) : SoundC Tryz.prog 261 vs p := by
  unfold z59.pack at h; split at h <;> cases h
  exact loops_sound tab_ok mixed_ok rfl rfl rfl (fun g vs p h => by unfold z59.C at h; simp only at h; split at h; exact z58.sound vs p h; simp at h) fun261 z59.loopsT rfl (z59.link _ _ _) z59.hdec
theorem z60.l0_sound (hI : InlOK Tryz.prog z60.C fun R => z60.C.inlK 6) : LoopS z60.C 6 224 0 0 (loopAt 0 (ifun Tryz.f224).body) z60.l0sh z60.l0pack := by
  refine loopS fun ls p h => ?_
  unfold z60.l0pack at h; split at h <;> cases h
  rename_i l1001 d1002 t1003 rest1004 i1005 s1006 s1007
  exact loop_one hI (sh := z60.l0sh) (so := z60.l0sh) (F := fun R rec done x => z60.l0P l1001 d1002 rec done x) (enc := fun (x' : (Int × Int × (List Int))) => fillSt z60.l0sh [.li l1001, .i d1002, .i t1003, .i x'.1, .i x'.2.1, .li s1006, .li x'.2.2]) [3, 4, 6] [3, 4, 6] (rest1004, i1005, s1007) (by kernel_rfl) (by kernel_rfl) (fun x => by kernel_rfl) (fun o => by kernel_rfl) fun R k d x' => z60.l0_link R k d l1001 d1002 t1003 (x'.1) (x'.2.1) s1006 (x'.2.2)
theorem fun224 : FunOK Tryz.prog 224 Tryz.f224 (ifun Tryz.f224).body := ⟨Tryz.func224, rfl, by kernel_rfl⟩
theorem once224 : loopsOnce (ifun Tryz.f224).body = true := by kernel_rfl
theorem z60.loopsT (hI : InlOK Tryz.prog z60.C fun R => z60.C.inlK 6) : LoopsOK z60.C (fun R => z60.C.inlK 6) 224 0 (ifun Tryz.f224).body := by
  intro id b hm st p hp
  obtain rfl := loopsOnce_mem once224 hm
  unfold z60.C at hp
  simp only at hp
  try split at hp
  all_goals first
    | (simp at hp; done)
    | (exfalso; omega)
    | exact z60.l0_sound hI st p hp
theorem z60.hdec : DecOK z60.dec z60.enc := by
  intro v r h
  unfold z60.dec at h; split at h <;> cases h
  exact ⟨rfl, rfl⟩
theorem z60.sound (vs : List V) (p : Pack) (h : z60.pack vs = some p) : SoundC Tryz.prog 224 vs p := by
  unfold z60.pack at h; split at h <;> cases h
  exact loops_sound tab_ok mixed_ok rfl rfl rfl (fun g vs p h => by unfold z60.C at h; simp only at h; split at h; exact z59.sound vs p h; simp at h) fun224 z60.loopsT rfl (z60.link _ _) z60.hdec
theorem fun162 : FunOK Tryz.prog 162 Tryz.f162 (ifun Tryz.f162).body := ⟨Tryz.func162, rfl, by kernel_rfl⟩
theorem z61.hdec : DecOK z61.dec z61.enc := by
  intro v r h
  unfold z61.dec at h; split at h <;> cases h
  exact ⟨rfl, rfl⟩
theorem z61.sound (vs : List V) (p : Pack) (h : z61.pack vs = some p) : SoundC Tryz.prog 162 vs p := by
  unfold z61.pack at h; split at h <;> cases h
  exact plain_sound tab_ok mixed_ok rfl rfl rfl rfl (fun g vs p h => by unfold z61.C at h; simp only at h; split at h; exact z15.sound vs p h; exact z25.sound vs p h; exact z56.sound vs p h; exact z60.sound vs p h; exact z34.sound vs p h; exact z5.sound vs p h; simp at h) fun162 rfl (z61.link _ _) z61.hdec
theorem z62.l0_sound (hI : InlOK Tryz.prog z62.C fun R => z62.C.inlK 6) : LoopS z62.C 6 226 0 0 (loopAt 0 (ifun Tryz.f226).body) z62.l0sh z62.l0pack := by
  refine loopS fun ls p h => ?_
  unfold z62.l0pack at h; split at h <;> cases h
  rename_i s1001 s1002 s1003
  exact loop_one hI (sh := z62.l0sh) (so := z62.l0sh) (F := fun R rec done x => z62.l0P  rec done x) (enc := fun (x' : ((List Int) × (List Int))) => fillSt z62.l0sh [.li x'.1, .li x'.2, .li s1003]) [0, 1] [0, 1] (s1001, s1002) (by kernel_rfl) (by kernel_rfl) (fun x => by kernel_rfl) (fun o => by kernel_rfl) fun R k d x' => z62.l0_link R k d (x'.1) (x'.2) s1003
theorem fun226 : FunOK Tryz.prog 226 Tryz.f226 (ifun Tryz.f226).body := ⟨Tryz.func226, rfl, by kernel_rfl⟩
theorem once226 : loopsOnce (ifun Tryz.f226).body = true := by kernel_rfl
theorem z62.loopsT (hI : InlOK Tryz.prog z62.C fun R => z62.C.inlK 6) : LoopsOK z62.C (fun R => z62.C.inlK 6) 226 0 (ifun Tryz.f226).body := by
  intro id b hm st p hp
  obtain rfl := loopsOnce_mem once226 hm
  unfold z62.C at hp
  simp only at hp
  try split at hp
  all_goals first
    | (simp at hp; done)
    | (exfalso; omega)
    | exact z62.l0_sound hI st p hp
theorem z62.hdec : DecOK z62.dec z62.enc := by
  intro v r h
  unfold z62.dec at h; split at h <;> cases h
  exact ⟨rfl, rfl⟩
theorem z62.sound (vs : List V) (p : Pack) (h : z62.pack vs = some p) : SoundC Tryz.prog 226 vs p := by
  unfold z62.pack at h; split at h <;> cases h
  exact loops_sound tab_ok mixed_ok rfl rfl rfl (fun g vs p h => by unfold z62.C at h; simp only at h; split at h; exact z15.sound vs p h; exact z61.sound vs p h; simp at h) fun226 z62.loopsT rfl (z62.link _ _) z62.hdec
theorem fun163 : FunOK Tryz.prog 163 Tryz.f163 (ifun Tryz.f163).body := ⟨Tryz.func163, rfl, by kernel_rfl⟩
theorem z63.hdec : DecOK z63.dec z63.enc := by
  intro v r h
  unfold z63.dec at h; split at h <;> cases h
  exact ⟨rfl, rfl⟩
theorem z63.sound (vs : List V) (p : Pack) (h : z63.pack vs = some p) : SoundC Tryz.prog 163 vs p := by
  unfold z63.pack at h; split at h <;> cases h
  exact plain_sound tab_ok mixed_ok rfl rfl rfl rfl (fun g vs p h => by unfold z63.C at h; simp only at h; split at h; exact z55.sound vs p h; exact z62.sound vs p h; exact z61.sound vs p h; exact z34.sound vs p h; exact z26.sound vs p h; exact z16.sound vs p h; exact z17.sound vs p h; simp at h) fun163 rfl (z63.link _ _ _) z63.hdec
theorem fun176 : FunOK Tryz.prog 176 Tryz.f176 (ifun Tryz.f176).body := ⟨Tryz.func176, rfl, by kernel_rfl⟩
theorem z64.hdec : DecOK z64.dec z64.enc := by
  intro v r h
  unfold z64.dec at h; split at h <;> cases h
  exact ⟨rfl, rfl⟩
theorem z64.sound (vs : List V) (p : Pack) (h : z64.pack vs = some p) : SoundC Tryz.prog 176 vs p := by
  unfold z64.pack at h; split at h <;> cases h
  exact plain_sound tab_ok mixed_ok rfl rfl rfl rfl (fun g vs p h => by unfold z64.C at h; simp only at h; split at h; exact z16.sound vs p h; exact z28.sound vs p h; exact z55.sound vs p h; exact z63.sound vs p h; simp at h) fun176 rfl (z64.link _ _ _ _) z64.hdec
theorem fun123 : FunOK Tryz.prog 123 Tryz.f123 (ifun Tryz.f123).body := ⟨Tryz.func123, rfl, by kernel_rfl⟩
theorem z65.hdec : DecOK z65.dec z65.enc := by
  intro v r h
  unfold z65.dec at h; split at h <;> cases h
  exact ⟨rfl, rfl⟩
theorem z65.sound (vs : List V) (p : Pack) (h : z65.pack vs = some p) : SoundC Tryz.prog 123 vs p := by
  unfold z65.pack at h; split at h <;> cases h
  exact plain_sound tab_ok mixed_ok rfl rfl rfl rfl (fun g vs p h => by unfold z65.C at h; simp only at h; split at h; exact z51.sound vs p h; exact z64.sound vs p h; simp at h) fun123 rfl (z65.link _ _ _) z65.hdec
theorem fun130 : FunOK Tryz.prog 130 Tryz.f130 (ifun Tryz.f130).body := ⟨Tryz.func130, rfl, by kernel_rfl⟩
theorem z66.hdec : DecOK z66.dec z66.enc := by
  intro v r h
  unfold z66.dec at h; split at h <;> cases h
  exact ⟨rfl, rfl⟩
theorem z66.sound (vs : List V) (p : Pack) (h : z66.pack vs = some p) : SoundC Tryz.prog 130 vs p := by
  unfold z66.pack at h; split at h <;> cases h
  exact plain_sound tab_ok mixed_ok rfl rfl rfl rfl (fun g vs p h => by unfold z66.C at h; simp only at h; split at h; exact z34.sound vs p h; exact z20.sound vs p h; simp at h) fun130 rfl (z66.link _ _ _) z66.hdec
theorem fun157 : FunOK Tryz.prog 157 Tryz.f157 (ifun Tryz.f157).body := ⟨Tryz.func157, rfl, by kernel_rfl⟩
theorem z67.hdec : DecOK z67.dec z67.enc := by
  intro v r h
  unfold z67.dec at h; split at h <;> cases h
  exact ⟨rfl, rfl⟩
theorem z67.sound (vs : List V) (p : Pack) (h : z67.pack vs = some p) : SoundC Tryz.prog 157 vs p := by
  unfold z67.pack at h; split at h <;> cases h
  exact plain_sound tab_ok mixed_ok rfl rfl rfl rfl (fun g vs p h => by unfold z67.C at h; simp only at h; split at h; exact z66.sound vs p h; exact z17.sound vs p h; simp at h) fun157 rfl (z67.link _ _ _) z67.hdec
theorem fun124 : FunOK Tryz.prog 124 Tryz.f124 (ifun Tryz.f124).body := ⟨Tryz.func124, rfl, by kernel_rfl⟩
theorem z68.hdec : DecOK z68.dec z68.enc := by
  intro v r h
  unfold z68.dec at h; split at h <;> cases h
  exact ⟨rfl, rfl⟩
theorem z68.sound (vs : List V) (p : Pack) (h : z68.pack vs = some p) : SoundC Tryz.prog 124 vs p := by
  unfold z68.pack at h; split at h <;> cases h
  exact plain_sound tab_ok mixed_ok rfl rfl rfl rfl (fun g vs p h => by unfold z68.C at h; simp only at h; split at h; exact z67.sound vs p h; exact z50.sound vs p h; exact z64.sound vs p h; simp at h) fun124 rfl (z68.link _ _ _ _ _ _) z68.hdec
theorem fun38 : FunOK Tryz.prog 38 Tryz.f38 (ifun Tryz.f38).body := ⟨Tryz.func38, rfl, by kernel_rfl⟩
theorem z69.hdec : DecOK z69.dec z69.enc := by
  intro v r h
  unfold z69.dec at h; split at h <;> cases h
  exact ⟨rfl, rfl⟩
theorem z69.sound (vs : List V) (p : Pack) (h : z69.pack vs = some p) : SoundC Tryz.prog 38 vs p := by
  unfold z69.pack at h; split at h <;> cases h
  exact plain_sound tab_ok mixed_ok rfl rfl rfl rfl (fun g vs p h => by unfold z69.C at h; simp only at h; split at h; exact z46.sound vs p h; exact z44.sound vs p h; exact z48.sound vs p h; exact z49.sound vs p h; exact z16.sound vs p h; exact z53.sound vs p h; exact z54.sound vs p h; exact z65.sound vs p h; exact z43.sound vs p h; exact z68.sound vs p h; simp at h) fun38 rfl (z69.link _) z69.hdec
theorem fun137 : FunOK Tryz.prog 137 Tryz.f137 (ifun Tryz.f137).body := ⟨Tryz.func137, rfl, by kernel_rfl⟩
theorem z70.hdec : DecOK z70.dec z70.enc := by
  intro v r h
  unfold z70.dec at h; split at h <;> cases h
  exact ⟨rfl, rfl⟩
theorem z70.sound (vs : List V) (p : Pack) (h : z70.pack vs = some p) : SoundC Tryz.prog 137 vs p := by
  unfold z70.pack at h; split at h <;> cases h
  exact plain_sound tab_ok mixed_ok rfl rfl rfl rfl (fun g vs p h => by simp [z70.C] at h) fun137 rfl z70.link z70.hdec
theorem fun47 : FunOK Tryz.prog 47 Tryz.f47 (ifun Tryz.f47).body := ⟨Tryz.func47, rfl, by kernel_rfl⟩
theorem z71.hdec : DecOK z71.dec z71.enc := by
  intro v r h
  unfold z71.dec at h; split at h <;> cases h
  exact ⟨rfl, rfl⟩
theorem z71.sound (vs : List V) (p : Pack) (h : z71.pack vs = some p) : SoundC Tryz.prog 47 vs p := by
  unfold z71.pack at h; split at h <;> cases h
  exact plain_sound tab_ok mixed_ok rfl rfl rfl rfl (fun g vs p h => by unfold z71.C at h; simp only at h; split at h; exact z70.sound vs p h; simp at h) fun47 rfl (z71.link _) z71.hdec
theorem fun214 : FunOK Tryz.prog 214 Tryz.f214 (ifun Tryz.f214).body := ⟨Tryz.func214, rfl, by kernel_rfl⟩
theorem z72.hdec : DecOK z72.dec z72.enc := by
  intro v r h
  unfold z72.dec at h; split at h <;> cases h
  exact ⟨rfl, rfl⟩
theorem z72.sound (vs : List V) (p : Pack) (h : z72.pack vs = some p) : SoundC Tryz.prog 214 vs p := by
  unfold z72.pack at h; split at h <;> cases h
  exact plain_sound tab_ok mixed_ok rfl rfl rfl rfl (fun g vs p h => by simp [z72.C] at h) fun214 rfl (z72.link _) z72.hdec
theorem fun215 : FunOK Tryz.prog 215 Tryz.f215 (ifun Tryz.f215).body := ⟨Tryz.func215, rfl, by kernel_rfl⟩
theorem z73.hdec : DecOK z73.dec z73.enc := by
  intro v r h
  unfold z73.dec at h; split at h <;> cases h
  exact ⟨rfl, rfl⟩
theorem z73.sound (vs : List V) (p : Pack) (h : z73.pack vs = some p) : SoundC Tryz.prog 215 vs p := by
  unfold z73.pack at h; split at h <;> cases h
  exact plain_sound tab_ok mixed_ok rfl rfl rfl rfl (fun g vs p h => by simp [z73.C] at h) fun215 rfl z73.link z73.hdec
theorem fun149 : FunOK Tryz.prog 149 Tryz.f149 (ifun Tryz.f149).body := ⟨Tryz.func149, rfl, by kernel_rfl⟩
theorem z74.hdec : DecOK z74.dec z74.enc := by
  intro v r h
  unfold z74.dec at h; split at h <;> cases h
  exact ⟨rfl, rfl⟩
theorem z74.sound (vs : List V) (p : Pack) (h : z74.pack vs = some p) : SoundC Tryz.prog 149 vs p := by
  unfold z74.pack at h; split at h <;> cases h
  exact plain_sound tab_ok mixed_ok rfl rfl rfl rfl (fun g vs p h => by unfold z74.C at h; simp only at h; split at h; exact z72.sound vs p h; exact z73.sound vs p h; simp at h) fun149 rfl (z74.link _) z74.hdec
theorem fun228 : FunOK Tryz.prog 228 Tryz.f228 (ifun Tryz.f228).body := ⟨Tryz.func228, rfl, by kernel_rfl⟩
theorem z75.hdec : DecOK z75.dec z75.enc := by
  intro v r h
  unfold z75.dec at h; split at h <;> cases h
  exact ⟨rfl, rfl⟩
theorem z75.sound (vs : List V) (p : Pack) (h : z75.pack vs = some p) : SoundC Tryz.prog 228 vs p := by
  unfold z75.pack at h; split at h <;> cases h
  exact plain_sound tab_ok mixed_ok rfl rfl rfl rfl (fun g vs p h => by simp [z75.C] at h) fun228 rfl (z75.link _) z75.hdec
theorem fun257 : FunOK Tryz.prog 257 Tryz.f257 (ifun Tryz.f257).body := ⟨Tryz.func257, rfl, by kernel_rfl⟩
theorem z76.hdec : DecOK z76.dec z76.enc := by
  intro v r h
  unfold z76.dec at h; split at h <;> cases h
  exact ⟨rfl, rfl⟩
theorem z76.sound (vs : List V) (p : Pack) (h : z76.pack vs = some p) : SoundC Tryz.prog 257 vs p := by
  unfold z76.pack at h; split at h <;> cases h
  exact plain_sound tab_ok mixed_ok rfl rfl rfl rfl (fun g vs p h => by simp [z76.C] at h) fun257 rfl z76.link z76.hdec
theorem fun209 : FunOK Tryz.prog 209 Tryz.f209 (ifun Tryz.f209).body := ⟨Tryz.func209, rfl, by kernel_rfl⟩
theorem z77.hdec : DecOK z77.dec z77.enc := by
  intro v r h
  unfold z77.dec at h; split at h <;> cases h
  exact ⟨rfl, rfl⟩
theorem z77.sound (vs : List V) (p : Pack) (h : z77.pack vs = some p) : SoundC Tryz.prog 209 vs p := by
  unfold z77.pack at h; split at h <;> cases h
  exact plain_sound tab_ok mixed_ok rfl rfl rfl rfl (fun g vs p h => by unfold z77.C at h; simp only at h; split at h; exact z75.sound vs p h; exact z76.sound vs p h; simp at h) fun209 rfl (z77.link _) z77.hdec
theorem fun133 : FunOK Tryz.prog 133 Tryz.f133 (ifun Tryz.f133).body := ⟨Tryz.func133, rfl, by kernel_rfl⟩
theorem z78.hdec : DecOK z78.dec z78.enc := by
  intro v r h
  unfold z78.dec at h; split at h <;> cases h
  exact ⟨rfl, rfl⟩
theorem z78.sound (vs : List V) (p : Pack) (h : z78.pack vs = some p) : SoundC Tryz.prog 133 vs p := by
  unfold z78.pack at h; split at h <;> cases h
  exact plain_sound tab_ok mixed_ok rfl rfl rfl rfl (fun g vs p h => by unfold z78.C at h; simp only at h; split at h; exact z71.sound vs p h; exact z77.sound vs p h; exact z74.sound vs p h; simp at h) fun133 rfl (z78.link _ _ _ _ _ _ _ _ _ _) z78.hdec
theorem fun258 : FunOK Tryz.prog 258 Tryz.f258 (ifun Tryz.f258).body := ⟨Tryz.func258, rfl, by kernel_rfl⟩
theorem z79.hdec : DecOK z79.dec z79.enc := by
  intro v r h
  unfold z79.dec at h; split at h <;> cases h
  exact ⟨rfl, rfl⟩
theorem z79.sound (vs : List V) (p : Pack) (h : z79.pack vs = some p) : SoundC Tryz.prog 258 vs p := by
  unfold z79.pack at h; split at h <;> cases h
  exact plain_sound tab_ok mixed_ok rfl rfl rfl rfl (fun g vs p h => by simp [z79.C] at h) fun258 rfl (z79.link _) z79.hdec
theorem fun259 : FunOK Tryz.prog 259 Tryz.f259 (ifun Tryz.f259).body := ⟨Tryz.func259, rfl, by kernel_rfl⟩
theorem z80.hdec : DecOK z80.dec z80.enc := by
  intro v r h
  unfold z80.dec at h; split at h <;> cases h
  exact ⟨rfl, rfl⟩
theorem z80.sound (vs : List V) (p : Pack) (h : z80.pack vs = some p) : SoundC Tryz.prog 259 vs p := by
  unfold z80.pack at h; split at h <;> cases h
  exact plain_sound tab_ok mixed_ok rfl rfl rfl rfl (fun g vs p h => by unfold z80.C at h; simp only at h; split at h; exact z79.sound vs p h; simp at h) fun259 rfl (z80.link _) z80.hdec
theorem fun210 : FunOK Tryz.prog 210 Tryz.f210 (ifun Tryz.f210).body := ⟨Tryz.func210, rfl, by kernel_rfl⟩
theorem z81.hdec : DecOK z81.dec z81.enc := by
  intro v r h
  unfold z81.dec at h; split at h <;> cases h
  exact ⟨rfl, rfl⟩
theorem z81.sound (vs : List V) (p : Pack) (h : z81.pack vs = some p) : SoundC Tryz.prog 210 vs p := by
  unfold z81.pack at h; split at h <;> cases h
  exact plain_sound tab_ok mixed_ok rfl rfl rfl rfl (fun g vs p h => by unfold z81.C at h; simp only at h; split at h; exact z79.sound vs p h; exact z80.sound vs p h; simp at h) fun210 rfl (z81.link _ _) z81.hdec
theorem fun142 : FunOK Tryz.prog 142 Tryz.f142 (ifun Tryz.f142).body := ⟨Tryz.func142, rfl, by kernel_rfl⟩
theorem z82.hdec : DecOK z82.dec z82.enc := by
  intro v r h
  unfold z82.dec at h; split at h <;> cases h
  exact ⟨rfl, rfl⟩
theorem z82.sound (vs : List V) (p : Pack) (h : z82.pack vs = some p) : SoundC Tryz.prog 142 vs p := by
  unfold z82.pack at h; split at h <;> cases h
  exact plain_sound tab_ok mixed_ok rfl rfl rfl rfl (fun g vs p h => by unfold z82.C at h; simp only at h; split at h; exact z81.sound vs p h; simp at h) fun142 rfl (z82.link _ _ _) z82.hdec
theorem fun134 : FunOK Tryz.prog 134 Tryz.f134 (ifun Tryz.f134).body := ⟨Tryz.func134, rfl, by kernel_rfl⟩
theorem z83.hdec : DecOK z83.dec z83.enc := by
  intro v r h
  unfold z83.dec at h; split at h <;> cases h
  exact ⟨rfl, rfl⟩
theorem z83.sound (vs : List V) (p : Pack) (h : z83.pack vs = some p) : SoundC Tryz.prog 134 vs p := by
  unfold z83.pack at h; split at h <;> cases h
  exact plain_sound tab_ok mixed_ok rfl rfl rfl rfl (fun g vs p h => by unfold z83.C at h; simp only at h; split at h; exact z82.sound vs p h; exact z81.sound vs p h; simp at h) fun134 rfl (z83.link _ _ _ _) z83.hdec
theorem fun44 : FunOK Tryz.prog 44 Tryz.f44 (ifun Tryz.f44).body := ⟨Tryz.func44, rfl, by kernel_rfl⟩
theorem z84.hdec : DecOK z84.dec z84.enc := by
  intro v r h
  unfold z84.dec at h; split at h <;> cases h
  exact ⟨rfl, rfl⟩
theorem z84.sound (vs : List V) (p : Pack) (h : z84.pack vs = some p) : SoundC Tryz.prog 44 vs p := by
  unfold z84.pack at h; split at h <;> cases h
  exact plain_sound tab_ok mixed_ok rfl rfl rfl rfl (fun g vs p h => by unfold z84.C at h; simp only at h; split at h; exact z42.sound vs p h; exact z16.sound vs p h; exact z69.sound vs p h; exact z78.sound vs p h; exact z83.sound vs p h; simp at h) fun44 rfl (z84.link _ _ _ _ _ _ _ _ _ _) z84.hdec
theorem z85.l2_sound (hI : InlOK Tryz.prog z85.C fun R => z85.C.inlK 6) : LoopS z85.C 6 192 2 0 (loopAt 2 (ifun Tryz.f192).body) z85.l2sh z85.l2pack := by
  refine loopS fun ls p h => ?_
  unfold z85.l2pack at h; split at h <;> cases h
  rename_i s2001 end2002 d2003 i2004 s2005 s2006
  exact loop_one hI (sh := z85.l2sh) (so := z85.l2sh) (F := fun R rec done x => z85.l2P s2001 end2002 rec done x) (enc := fun (x' : (Int × Int)) => fillSt z85.l2sh [.s s2001, .i end2002, .i x'.1, .i x'.2, .li s2005, .li s2006]) [2, 3] [2, 3] (d2003, i2004) (by kernel_rfl) (by kernel_rfl) (fun x => by kernel_rfl) (fun o => by kernel_rfl) fun R k d x' => z85.l2_link R k d s2001 end2002 (x'.1) (x'.2) s2005 s2006
theorem z85.l0_sound (hI : InlOK Tryz.prog z85.C fun R => z85.C.inlK 6) : LoopS z85.C 6 192 0 0 (loopAt 0 (ifun Tryz.f192).body) z85.l0sh z85.l0pack := by
  refine loopS fun ls p h => ?_
  unfold z85.l0pack at h; split at h <;> cases h
  rename_i s1001 end1002 s1003 s1004
  exact loop_one hI (sh := z85.l0sh) (so := z85.l0sh) (F := fun R rec done x => z85.l0P s1001 rec done x) (enc := fun (x' : (Int × (List Int))) => fillSt z85.l0sh [.s s1001, .i x'.1, .li s1003, .li x'.2]) [1, 3] [1, 3] (end1002, s1004) (by kernel_rfl) (by kernel_rfl) (fun x => by kernel_rfl) (fun o => by kernel_rfl) fun R k d x' => z85.l0_link R k d s1001 (x'.1) s1003 (x'.2)
theorem fun192 : FunOK Tryz.prog 192 Tryz.f192 (ifun Tryz.f192).body := ⟨Tryz.func192, rfl, by kernel_rfl⟩
theorem once192 : loopsOnce (ifun Tryz.f192).body = true := by kernel_rfl
theorem z85.loopsT (hI : InlOK Tryz.prog z85.C fun R => z85.C.inlK 6) : LoopsOK z85.C (fun R => z85.C.inlK 6) 192 0 (ifun Tryz.f192).body := by
  intro id b hm st p hp
  obtain rfl := loopsOnce_mem once192 hm
  unfold z85.C at hp
  simp only at hp
  try split at hp
  all_goals first
    | (simp at hp; done)
    | (exfalso; omega)
    | exact z85.l2_sound hI st p hp
    | exact z85.l0_sound hI st p hp
theorem z85.hdec : DecOK z85.dec z85.enc := by
  intro v r h
  unfold z85.dec at h; split at h <;> cases h
  exact ⟨rfl, rfl⟩
theorem z85.sound (vs : List V) (p : Pack) (h : z85.pack vs = some p) : SoundC Tryz.prog 192 vs p := by
  unfold z85.pack at h; split at h <;> cases h
  exact loops_sound tab_ok mixed_ok rfl rfl rfl (fun g vs p h => by unfold z85.C at h; simp only at h; split at h; exact z12.sound vs p h; simp at h) fun192 z85.loopsT rfl (z85.link _) z85.hdec
theorem fun103 : FunOK Tryz.prog 103 Tryz.f103 (ifun Tryz.f103).body := ⟨Tryz.func103, rfl, by kernel_rfl⟩
theorem z86.hdec : DecOK z86.dec z86.enc := by
  intro v r h
  unfold z86.dec at h; split at h <;> cases h
  exact ⟨rfl, rfl⟩
theorem z86.sound (vs : List V) (p : Pack) (h : z86.pack vs = some p) : SoundC Tryz.prog 103 vs p := by
  unfold z86.pack at h; split at h <;> cases h
  exact plain_sound tab_ok mixed_ok rfl rfl rfl rfl (fun g vs p h => by unfold z86.C at h; simp only at h; split at h; exact z85.sound vs p h; exact z8.sound vs p h; simp at h) fun103 rfl (z86.link _) z86.hdec
theorem z87.l0b4_sound (hI : InlOK Tryz.prog z87.C fun R => z87.C.inlK 6) : LoopS z87.C 6 196 0 0 (loopAt 0 (ifun Tryz.f196).body) z87.l0b4sh z87.l0b4pack := by
  refine loopS fun ls p h => ?_
  unfold z87.l0b4pack at h; split at h <;> cases h
  rename_i s5001 t5002 i5003
  exact loop_two hI (sh := z87.l0b4sh) (so := z87.l0b4sh) (so' := z87.l0b4so1) (F := fun R rec done x => z87.l0b4P s5001 rec done x) (enc := fun (x' : Int) => fillSt z87.l0b4sh [.s s5001, .b t5002, .i x']) (.exit 0) [2] [2] [0] i5003 (by kernel_rfl) (by kernel_rfl) (fun x => by kernel_rfl) (fun o => by kernel_rfl) (fun o => by kernel_rfl) fun R k d x' => z87.l0b4_link R k d s5001 t5002 (x')
theorem fun196 : FunOK Tryz.prog 196 Tryz.f196 (ifun Tryz.f196).body := ⟨Tryz.func196, rfl, by kernel_rfl⟩
theorem once196 : loopsOnce (ifun Tryz.f196).body = true := by kernel_rfl
theorem z87.loopsT (hI : InlOK Tryz.prog z87.C fun R => z87.C.inlK 6) : LoopsOK z87.C (fun R => z87.C.inlK 6) 196 0 (ifun Tryz.f196).body := by
  intro id b hm st p hp
  obtain rfl := loopsOnce_mem once196 hm
  unfold z87.C at hp
  simp only at hp
  try split at hp
  all_goals first
    | (simp at hp; done)
    | (exfalso; omega)
    | exact z87.l0b4_sound hI st p hp
theorem z87.hdec : DecOK z87.dec z87.enc := by
  intro v r h
  unfold z87.dec at h; split at h <;> cases h
  exact ⟨rfl, rfl⟩
theorem z87.sound (vs : List V) (p : Pack) (h : z87.pack vs = some p) : SoundC Tryz.prog 196 vs p := by
  unfold z87.pack at h; split at h <;> cases h
  exact loops_sound tab_ok mixed_ok rfl rfl rfl (fun g vs p h => by simp [z87.C] at h) fun196 z87.loopsT rfl (z87.link _) z87.hdec
theorem fun115 : FunOK Tryz.prog 115 Tryz.f115 (ifun Tryz.f115).body := ⟨Tryz.func115, rfl, by kernel_rfl⟩
theorem z88.hdec : DecOK z88.dec z88.enc := by
  intro v r h
  unfold z88.dec at h; split at h <;> cases h
  exact ⟨rfl, rfl⟩
theorem z88.sound (vs : List V) (p : Pack) (h : z88.pack vs = some p) : SoundC Tryz.prog 115 vs p := by
  unfold z88.pack at h; split at h <;> cases h
  exact plain_sound tab_ok mixed_ok rfl rfl rfl rfl (fun g vs p h => by unfold z88.C at h; simp only at h; split at h; exact z10.sound vs p h; exact z87.sound vs p h; exact z86.sound vs p h; simp at h) fun115 rfl (z88.link _) z88.hdec
theorem z89.l0_sound (hI : InlOK Tryz.prog z89.C fun R => z89.C.inlK 6) : LoopS z89.C 6 116 0 0 (loopAt 0 (ifun Tryz.f116).body) z89.l0sh z89.l0pack := by
  refine loopS fun ls p h => ?_
  unfold z89.l0pack at h; split at h <;> cases h
  rename_i times1001 s1002 i1003 s1004
  exact loop_one hI (sh := z89.l0sh) (so := z89.l0sh) (F := fun R rec done x => z89.l0P times1001 rec done x) (enc := fun (x' : ((List UInt8) × Int)) => fillSt z89.l0sh [.i times1001, .s x'.1, .i x'.2, .li s1004]) [1, 2] [1, 2] (s1002, i1003) (by kernel_rfl) (by kernel_rfl) (fun x => by kernel_rfl) (fun o => by kernel_rfl) fun R k d x' => z89.l0_link R k d times1001 (x'.1) (x'.2) s1004
theorem fun116 : FunOK Tryz.prog 116 Tryz.f116 (ifun Tryz.f116).body := ⟨Tryz.func116, rfl, by kernel_rfl⟩
theorem once116 : loopsOnce (ifun Tryz.f116).body = true := by kernel_rfl
theorem z89.loopsT (hI : InlOK Tryz.prog z89.C fun R => z89.C.inlK 6) : LoopsOK z89.C (fun R => z89.C.inlK 6) 116 0 (ifun Tryz.f116).body := by
  intro id b hm st p hp
  obtain rfl := loopsOnce_mem once116 hm
  unfold z89.C at hp
  simp only at hp
  try split at hp
  all_goals first
    | (simp at hp; done)
    | (exfalso; omega)
    | exact z89.l0_sound hI st p hp
theorem z89.hdec : DecOK z89.dec z89.enc := by
  intro v r h
  unfold z89.dec at h; split at h <;> cases h
  exact ⟨rfl, rfl⟩
theorem z89.sound (vs : List V) (p : Pack) (h : z89.pack vs = some p) : SoundC Tryz.prog 116 vs p := by
  unfold z89.pack at h; split at h <;> cases h
  exact loops_sound tab_ok mixed_ok rfl rfl rfl (fun g vs p h => by unfold z89.C at h; simp only at h; split at h; exact z85.sound vs p h; simp at h) fun116 z89.loopsT rfl (z89.link _) z89.hdec
theorem fun35 : FunOK Tryz.prog 35 Tryz.f35 (ifun Tryz.f35).body := ⟨Tryz.func35, rfl, by kernel_rfl⟩
theorem z90.hdec : DecOK z90.dec z90.enc := by
  intro v r h
  unfold z90.dec at h; split at h <;> cases h
  exact ⟨rfl, rfl⟩
theorem z90.sound (vs : List V) (p : Pack) (h : z90.pack vs = some p) : SoundC Tryz.prog 35 vs p := by
  unfold z90.pack at h; split at h <;> cases h
  exact plain_sound tab_ok mixed_ok rfl rfl rfl rfl (fun g vs p h => by unfold z90.C at h; simp only at h; split at h; exact z8.sound vs p h; simp at h) fun35 rfl (z90.link _ _) z90.hdec
theorem z91.l0b6_sound (hI : InlOK Tryz.prog z91.C fun R => z91.C.inlK 6) : LoopS z91.C 6 170 0 0 (loopAt 0 (ifun Tryz.f170).body) z91.l0b6sh z91.l0b6pack := by
  refine loopS fun ls p h => ?_
  unfold z91.l0b6pack at h; split at h <;> cases h
  rename_i a7001 b7002 carry7003 i7004 s7005 s7006
  exact loop_one hI (sh := z91.l0b6sh) (so := z91.l0b6sh) (F := fun R rec done x => z91.l0b6P a7001 b7002 rec done x) (enc := fun (x' : (Int × Int × (List Int))) => fillSt z91.l0b6sh [.li a7001, .li b7002, .i x'.1, .i x'.2.1, .li s7005, .li x'.2.2]) [2, 3, 5] [2, 3, 5] (carry7003, i7004, s7006) (by kernel_rfl) (by kernel_rfl) (fun x => by kernel_rfl) (fun o => by kernel_rfl) fun R k d x' => z91.l0b6_link R k d a7001 b7002 (x'.1) (x'.2.1) s7005 (x'.2.2)
theorem fun170 : FunOK Tryz.prog 170 Tryz.f170 (ifun Tryz.f170).body := ⟨Tryz.func170, rfl, by kernel_rfl⟩
theorem once170 : loopsOnce (ifun Tryz.f170).body = true := by kernel_rfl
theorem z91.loopsT (hI : InlOK Tryz.prog z91.C fun R => z91.C.inlK 6) : LoopsOK z91.C (fun R => z91.C.inlK 6) 170 0 (ifun Tryz.f170).body := by
  intro id b hm st p hp
  obtain rfl := loopsOnce_mem once170 hm
  unfold z91.C at hp
  simp only at hp
  try split at hp
  all_goals first
    | (simp at hp; done)
    | (exfalso; omega)
    | exact z91.l0b6_sound hI st p hp
theorem z91.hdec : DecOK z91.dec z91.enc := by
  intro v r h
  unfold z91.dec at h; split at h <;> cases h
  exact ⟨rfl, rfl⟩
theorem z91.sound (vs : List V) (p : Pack) (h : z91.pack vs = some p) : SoundC Tryz.prog 170 vs p := by
  unfold z91.pack at h; split at h <;> cases h
  exact loops_sound tab_ok mixed_ok rfl rfl rfl (fun g vs p h => by unfold z91.C at h; simp only at h; split at h; exact z11.sound vs p h; exact z12.sound vs p h; simp at h) fun170 z91.loopsT rfl (z91.link _ _) z91.hdec
theorem z92.l0_sound (hI : InlOK Tryz.prog z92.C fun R => z92.C.inlK 6) : LoopS z92.C 6 171 0 0 (loopAt 0 (ifun Tryz.f171).body) z92.l0sh z92.l0pack := by
  refine loopS fun ls p h => ?_
  unfold z92.l0pack at h; split at h <;> cases h
  rename_i a1001 b1002 t1003 i1004
  exact loop_two hI (sh := z92.l0sh) (so := z92.l0sh) (so' := z92.l0so1) (F := fun R rec done x => z92.l0P a1001 b1002 rec done x) (enc := fun (x' : Int) => fillSt z92.l0sh [.li a1001, .li b1002, .i t1003, .i x']) (.exit 0) [3] [3] [0] i1004 (by kernel_rfl) (by kernel_rfl) (fun x => by kernel_rfl) (fun o => by kernel_rfl) (fun o => by kernel_rfl) fun R k d x' => z92.l0_link R k d a1001 b1002 t1003 (x')
theorem fun171 : FunOK Tryz.prog 171 Tryz.f171 (ifun Tryz.f171).body := ⟨Tryz.func171, rfl, by kernel_rfl⟩
theorem once171 : loopsOnce (ifun Tryz.f171).body = true := by kernel_rfl
theorem z92.loopsT (hI : InlOK Tryz.prog z92.C fun R => z92.C.inlK 6) : LoopsOK z92.C (fun R => z92.C.inlK 6) 171 0 (ifun Tryz.f171).body := by
  intro id b hm st p hp
  obtain rfl := loopsOnce_mem once171 hm
  unfold z92.C at hp
  simp only at hp
  try split at hp
  all_goals first
    | (simp at hp; done)
    | (exfalso; omega)
    | exact z92.l0_sound hI st p hp
theorem z92.hdec : DecOK z92.dec z92.enc := by
  intro v r h
  unfold z92.dec at h; split at h <;> cases h
  exact ⟨rfl, rfl⟩
theorem z92.sound (vs : List V) (p : Pack) (h : z92.pack vs = some p) : SoundC Tryz.prog 171 vs p := by
  unfold z92.pack at h; split at h <;> cases h
  exact loops_sound tab_ok mixed_ok rfl rfl rfl (fun g vs p h => by simp [z92.C] at h) fun171 z92.loopsT rfl (z92.link _ _) z92.hdec
theorem z93.l0_sound (hI : InlOK Tryz.prog z93.C fun R => z93.C.inlK 6) : LoopS z93.C 6 172 0 0 (loopAt 0 (ifun Tryz.f172).body) z93.l0sh z93.l0pack := by
  refine loopS fun ls p h => ?_
  unfold z93.l0pack at h; split at h <;> cases h
  rename_i a1001 b1002 borrow1003 i1004 s1005 s1006
  exact loop_one hI (sh := z93.l0sh) (so := z93.l0sh) (F := fun R rec done x => z93.l0P a1001 b1002 rec done x) (enc := fun (x' : (Int × Int × (List Int))) => fillSt z93.l0sh [.li a1001, .li b1002, .i x'.1, .i x'.2.1, .li s1005, .li x'.2.2]) [2, 3, 5] [2, 3, 5] (borrow1003, i1004, s1006) (by kernel_rfl) (by kernel_rfl) (fun x => by kernel_rfl) (fun o => by kernel_rfl) fun R k d x' => z93.l0_link R k d a1001 b1002 (x'.1) (x'.2.1) s1005 (x'.2.2)
theorem fun172 : FunOK Tryz.prog 172 Tryz.f172 (ifun Tryz.f172).body := ⟨Tryz.func172, rfl, by kernel_rfl⟩
theorem once172 : loopsOnce (ifun Tryz.f172).body = true := by kernel_rfl
theorem z93.loopsT (hI : InlOK Tryz.prog z93.C fun R => z93.C.inlK 6) : LoopsOK z93.C (fun R => z93.C.inlK 6) 172 0 (ifun Tryz.f172).body := by
  intro id b hm st p hp
  obtain rfl := loopsOnce_mem once172 hm
  unfold z93.C at hp
  simp only at hp
  try split at hp
  all_goals first
    | (simp at hp; done)
    | (exfalso; omega)
    | exact z93.l0_sound hI st p hp
theorem z93.hdec : DecOK z93.dec z93.enc := by
  intro v r h
  unfold z93.dec at h; split at h <;> cases h
  exact ⟨rfl, rfl⟩
theorem z93.sound (vs : List V) (p : Pack) (h : z93.pack vs = some p) : SoundC Tryz.prog 172 vs p := by
  unfold z93.pack at h; split at h <;> cases h
  exact loops_sound tab_ok mixed_ok rfl rfl rfl (fun g vs p h => by unfold z93.C at h; simp only at h; split at h; exact z11.sound vs p h; exact z12.sound vs p h; simp at h) fun172 z93.loopsT rfl (z93.link _ _) z93.hdec
theorem fun85 : FunOK Tryz.prog 85 Tryz.f85 (ifun Tryz.f85).body := ⟨Tryz.func85, rfl, by kernel_rfl⟩
theorem z94.hdec : DecOK z94.dec z94.enc := by
  intro v r h
  unfold z94.dec at h; split at h <;> cases h
  exact ⟨rfl, rfl⟩
theorem z94.sound (vs : List V) (p : Pack) (h : z94.pack vs = some p) : SoundC Tryz.prog 85 vs p := by
  unfold z94.pack at h; split at h <;> cases h
  exact plain_sound tab_ok mixed_ok rfl rfl rfl rfl (fun g vs p h => by unfold z94.C at h; simp only at h; split at h; exact z91.sound vs p h; exact z8.sound vs p h; exact z92.sound vs p h; exact z93.sound vs p h; simp at h) fun85 rfl (z94.link _ _ _ _) z94.hdec
theorem fun63 : FunOK Tryz.prog 63 Tryz.f63 (ifun Tryz.f63).body := ⟨Tryz.func63, rfl, by kernel_rfl⟩
theorem z95.hdec : DecOK z95.dec z95.enc := by
  intro v r h
  unfold z95.dec at h; split at h <;> cases h
  exact ⟨rfl, rfl⟩
theorem z95.sound (vs : List V) (p : Pack) (h : z95.pack vs = some p) : SoundC Tryz.prog 63 vs p := by
  unfold z95.pack at h; split at h <;> cases h
  exact plain_sound tab_ok mixed_ok rfl rfl rfl rfl (fun g vs p h => by unfold z95.C at h; simp only at h; split at h; exact z90.sound vs p h; exact z94.sound vs p h; simp at h) fun63 rfl (z95.link _ _ _ _) z95.hdec
theorem fun197 : FunOK Tryz.prog 197 Tryz.f197 (ifun Tryz.f197).body := ⟨Tryz.func197, rfl, by kernel_rfl⟩
theorem z96.hdec : DecOK z96.dec z96.enc := by
  intro v r h
  unfold z96.dec at h; split at h <;> cases h
  exact ⟨rfl, rfl⟩
theorem z96.sound (vs : List V) (p : Pack) (h : z96.pack vs = some p) : SoundC Tryz.prog 197 vs p := by
  unfold z96.pack at h; split at h <;> cases h
  exact plain_sound tab_ok mixed_ok rfl rfl rfl rfl (fun g vs p h => by simp [z96.C] at h) fun197 rfl (z96.link _ _) z96.hdec
theorem fun117 : FunOK Tryz.prog 117 Tryz.f117 (ifun Tryz.f117).body := ⟨Tryz.func117, rfl, by kernel_rfl⟩
theorem z97.hdec : DecOK z97.dec z97.enc := by
  intro v r h
  unfold z97.dec at h; split at h <;> cases h
  exact ⟨rfl, rfl⟩
theorem z97.sound (vs : List V) (p : Pack) (h : z97.pack vs = some p) : SoundC Tryz.prog 117 vs p := by
  unfold z97.pack at h; split at h <;> cases h
  exact plain_sound tab_ok mixed_ok rfl rfl rfl rfl (fun g vs p h => by unfold z97.C at h; simp only at h; split at h; exact z95.sound vs p h; exact z96.sound vs p h; simp at h) fun117 rfl (z97.link _ _ _ _) z97.hdec
theorem fun37 : FunOK Tryz.prog 37 Tryz.f37 (ifun Tryz.f37).body := ⟨Tryz.func37, rfl, by kernel_rfl⟩
theorem z98.hdec : DecOK z98.dec z98.enc := by
  intro v r h
  unfold z98.dec at h; split at h <;> cases h
  exact ⟨rfl, rfl⟩
theorem z98.sound (vs : List V) (p : Pack) (h : z98.pack vs = some p) : SoundC Tryz.prog 37 vs p := by
  unfold z98.pack at h; split at h <;> cases h
  exact plain_sound tab_ok mixed_ok rfl rfl rfl rfl (fun g vs p h => by unfold z98.C at h; simp only at h; split at h; exact z10.sound vs p h; exact z88.sound vs p h; exact z89.sound vs p h; exact z8.sound vs p h; exact z97.sound vs p h; simp at h) fun37 rfl (z98.link _) z98.hdec
theorem z99.l2_sound (hI : InlOK Tryz.prog z99.C fun R => z99.C.inlK 6) : LoopS z99.C 6 221 2 0 (loopAt 2 (ifun Tryz.f221).body) z99.l2sh z99.l2pack := by
  refine loopS fun ls p h => ?_
  unfold z99.l2pack at h; split at h <;> cases h
  rename_i a2001 b2002 rest2003 i2004 low2005 high2006 s2007 s2008 s2009
  exact loop_one hI (sh := z99.l2sh) (so := z99.l2sh) (F := fun R rec done x => z99.l2P b2002 rest2003 rec done x) (enc := fun (x' : (Int × Int)) => fillSt z99.l2sh [.li a2001, .li b2002, .li rest2003, .i i2004, .i x'.1, .i x'.2, .li s2007, .li s2008, .li s2009]) [4, 5] [4, 5] (low2005, high2006) (by kernel_rfl) (by kernel_rfl) (fun x => by kernel_rfl) (fun o => by kernel_rfl) fun R k d x' => z99.l2_link R k d a2001 b2002 rest2003 i2004 (x'.1) (x'.2) s2007 s2008 s2009
theorem z99.l0a_sound (hI : InlOK Tryz.prog z99.C fun R => z99.C.inlK 6) : LoopS z99.C 6 221 0 0 (loopAt 0 (ifun Tryz.f221).body) z99.l0ash z99.l0apack := by
  refine loopS fun ls p h => ?_
  unfold z99.l0apack at h; split at h <;> cases h
  rename_i a3001 b3002 rest3003 i3004 s3005 s3006 s3007
  exact loop_one hI (sh := z99.l0ash) (so := z99.l0ash) (F := fun R rec done x => z99.l0aP a3001 b3002 rec done x) (enc := fun (x' : ((List Int) × Int × (List Int))) => fillSt z99.l0ash [.li a3001, .li b3002, .li x'.1, .i x'.2.1, .li s3005, .li s3006, .li x'.2.2]) [2, 3, 6] [2, 3, 6] (rest3003, i3004, s3007) (by kernel_rfl) (by kernel_rfl) (fun x => by kernel_rfl) (fun o => by kernel_rfl) fun R k d x' => z99.l0a_link R k d a3001 b3002 (x'.1) (x'.2.1) s3005 s3006 (x'.2.2)
theorem fun221 : FunOK Tryz.prog 221 Tryz.f221 (ifun Tryz.f221).body := ⟨Tryz.func221, rfl, by kernel_rfl⟩
theorem once221 : loopsOnce (ifun Tryz.f221).body = true := by kernel_rfl
theorem z99.loopsT (hI : InlOK Tryz.prog z99.C fun R => z99.C.inlK 6) : LoopsOK z99.C (fun R => z99.C.inlK 6) 221 0 (ifun Tryz.f221).body := by
  intro id b hm st p hp
  obtain rfl := loopsOnce_mem once221 hm
  unfold z99.C at hp
  simp only at hp
  try split at hp
  all_goals first
    | (simp at hp; done)
    | (exfalso; omega)
    | exact z99.l2_sound hI st p hp
    | exact z99.l0a_sound hI st p hp
theorem z99.hdec : DecOK z99.dec z99.enc := by
  intro v r h
  unfold z99.dec at h; split at h <;> cases h
  exact ⟨rfl, rfl⟩
theorem z99.sound (vs : List V) (p : Pack) (h : z99.pack vs = some p) : SoundC Tryz.prog 221 vs p := by
  unfold z99.pack at h; split at h <;> cases h
  exact loops_sound tab_ok mixed_ok rfl rfl rfl (fun g vs p h => by unfold z99.C at h; simp only at h; split at h; exact z12.sound vs p h; exact z9.sound vs p h; exact z13.sound vs p h; exact z92.sound vs p h; exact z93.sound vs p h; simp at h) fun221 z99.loopsT rfl (z99.link _ _) z99.hdec
theorem z100.l0_sound (hI : InlOK Tryz.prog z100.C fun R => z100.C.inlK 6) : LoopS z100.C 6 256 0 0 (loopAt 0 (ifun Tryz.f256).body) z100.l0sh z100.l0pack := by
  refine loopS fun ls p h => ?_
  unfold z100.l0pack at h; split at h <;> cases h
  rename_i a1001 b1002 s1003
  exact loop_one hI (sh := z100.l0sh) (so := z100.l0sh) (F := fun R rec done x => z100.l0P  rec done x) (enc := fun (x' : ((List Int) × (List Int))) => fillSt z100.l0sh [.li x'.1, .li x'.2, .li s1003]) [0, 1] [0, 1] (a1001, b1002) (by kernel_rfl) (by kernel_rfl) (fun x => by kernel_rfl) (fun o => by kernel_rfl) fun R k d x' => z100.l0_link R k d (x'.1) (x'.2) s1003
theorem fun256 : FunOK Tryz.prog 256 Tryz.f256 (ifun Tryz.f256).body := ⟨Tryz.func256, rfl, by kernel_rfl⟩
theorem once256 : loopsOnce (ifun Tryz.f256).body = true := by kernel_rfl
theorem z100.loopsT (hI : InlOK Tryz.prog z100.C fun R => z100.C.inlK 6) : LoopsOK z100.C (fun R => z100.C.inlK 6) 256 0 (ifun Tryz.f256).body := by
  intro id b hm st p hp
  obtain rfl := loopsOnce_mem once256 hm
  unfold z100.C at hp
  simp only at hp
  try split at hp
  all_goals first
    | (simp at hp; done)
    | (exfalso; omega)
    | exact z100.l0_sound hI st p hp
theorem z100.hdec : DecOK z100.dec z100.enc := by
  intro v r h
  unfold z100.dec at h; split at h <;> cases h
  exact ⟨rfl, rfl⟩
theorem z100.sound (vs : List V) (p : Pack) (h : z100.pack vs = some p) : SoundC Tryz.prog 256 vs p := by
  unfold z100.pack at h; split at h <;> cases h
  exact loops_sound tab_ok mixed_ok rfl rfl rfl (fun g vs p h => by unfold z100.C at h; simp only at h; split at h; exact z99.sound vs p h; simp at h) fun256 z100.loopsT rfl (z100.link _ _) z100.hdec
theorem fun206 : FunOK Tryz.prog 206 Tryz.f206 (ifun Tryz.f206).body := ⟨Tryz.func206, rfl, by kernel_rfl⟩
theorem z101.hdec : DecOK z101.dec z101.enc := by
  intro v r h
  unfold z101.dec at h; split at h <;> cases h
  exact ⟨rfl, rfl⟩
theorem z101.sound (vs : List V) (p : Pack) (h : z101.pack vs = some p) : SoundC Tryz.prog 206 vs p := by
  unfold z101.pack at h; split at h <;> cases h
  exact plain_sound tab_ok mixed_ok rfl rfl rfl rfl (fun g vs p h => by unfold z101.C at h; simp only at h; split at h; exact z100.sound vs p h; exact z99.sound vs p h; exact z8.sound vs p h; simp at h) fun206 rfl (z101.link _ _ _) z101.hdec
theorem fun205 : FunOK Tryz.prog 205 Tryz.f205 (ifun Tryz.f205).body := ⟨Tryz.func205, rfl, by kernel_rfl⟩
theorem z102.hdec : DecOK z102.dec z102.enc := by
  intro v r h
  unfold z102.dec at h; split at h <;> cases h
  exact ⟨rfl, rfl⟩
theorem z102.sound (vs : List V) (p : Pack) (h : z102.pack vs = some p) : SoundC Tryz.prog 205 vs p := by
  unfold z102.pack at h; split at h <;> cases h
  exact plain_sound tab_ok mixed_ok rfl rfl rfl rfl (fun g vs p h => by unfold z102.C at h; simp only at h; split at h; exact z90.sound vs p h; exact z101.sound vs p h; simp at h) fun205 rfl (z102.link _ _ _ _) z102.hdec
theorem fun125 : FunOK Tryz.prog 125 Tryz.f125 (ifun Tryz.f125).body := ⟨Tryz.func125, rfl, by kernel_rfl⟩
theorem z103.hdec : DecOK z103.dec z103.enc := by
  intro v r h
  unfold z103.dec at h; split at h <;> cases h
  exact ⟨rfl, rfl⟩
theorem z103.sound (vs : List V) (p : Pack) (h : z103.pack vs = some p) : SoundC Tryz.prog 125 vs p := by
  unfold z103.pack at h; split at h <;> cases h
  exact plain_sound tab_ok mixed_ok rfl rfl rfl rfl (fun g vs p h => by unfold z103.C at h; simp only at h; split at h; exact z10.sound vs p h; exact z102.sound vs p h; simp at h) fun125 rfl (z103.link _ _) z103.hdec
theorem z104.l0b10_sound (hI : InlOK Tryz.prog z104.C fun R => z104.C.inlK 6) : LoopS z104.C 6 126 0 0 (loopAt 0 (ifun Tryz.f126).body) z104.l0b10sh z104.l0b10pack := by
  refine loopS fun ls p h => ?_
  unfold z104.l0b10pack at h; split at h <;> cases h
  rename_i s11001 t11002 below11003 i11004 all11005 ahead11006 behind11007 zero11008 s11009 s11010 s11011 s11012 s11013 s11014
  exact loop_two hI (sh := z104.l0b10sh) (so := z104.l0b10sh) (so' := z104.l0b10so1) (F := fun R rec done x => z104.l0b10P s11001 rec done x) (enc := fun (x' : (Int × (List UInt8) × Int × Int × Bool)) => fillSt z104.l0b10sh [.s s11001, .i t11002, .b below11003, .i x'.1, .s x'.2.1, .i x'.2.2.1, .i x'.2.2.2.1, .b x'.2.2.2.2, .li s11009, .b s11010, .i s11011, .li s11012, .b s11013, .i s11014]) (.exit 0) [3, 4, 5, 6, 7] [3, 4, 5, 6, 7] [0] (i11004, all11005, ahead11006, behind11007, zero11008) (by kernel_rfl) (by kernel_rfl) (fun x => by kernel_rfl) (fun o => by kernel_rfl) (fun o => by kernel_rfl) fun R k d x' => z104.l0b10_link R k d s11001 t11002 below11003 (x'.1) (x'.2.1) (x'.2.2.1) (x'.2.2.2.1) (x'.2.2.2.2) s11009 s11010 s11011 s11012 s11013 s11014
theorem fun126 : FunOK Tryz.prog 126 Tryz.f126 (ifun Tryz.f126).body := ⟨Tryz.func126, rfl, by kernel_rfl⟩
theorem once126 : loopsOnce (ifun Tryz.f126).body = true := by kernel_rfl
theorem z104.loopsT (hI : InlOK Tryz.prog z104.C fun R => z104.C.inlK 6) : LoopsOK z104.C (fun R => z104.C.inlK 6) 126 0 (ifun Tryz.f126).body := by
  intro id b hm st p hp
  obtain rfl := loopsOnce_mem once126 hm
  unfold z104.C at hp
  simp only at hp
  try split at hp
  all_goals first
    | (simp at hp; done)
    | (exfalso; omega)
    | exact z104.l0b10_sound hI st p hp
theorem z104.hdec : DecOK z104.dec z104.enc := by
  intro v r h
  unfold z104.dec at h; split at h <;> cases h
  exact ⟨rfl, rfl⟩
theorem z104.sound (vs : List V) (p : Pack) (h : z104.pack vs = some p) : SoundC Tryz.prog 126 vs p := by
  unfold z104.pack at h; split at h <;> cases h
  exact loops_sound tab_ok mixed_ok rfl rfl rfl (fun g vs p h => by unfold z104.C at h; simp only at h; split at h; exact z85.sound vs p h; exact z8.sound vs p h; simp at h) fun126 z104.loopsT rfl (z104.link _) z104.hdec
theorem fun127 : FunOK Tryz.prog 127 Tryz.f127 (ifun Tryz.f127).body := ⟨Tryz.func127, rfl, by kernel_rfl⟩
theorem z105.hdec : DecOK z105.dec z105.enc := by
  intro v r h
  unfold z105.dec at h; split at h <;> cases h
  exact ⟨rfl, rfl⟩
theorem z105.sound (vs : List V) (p : Pack) (h : z105.pack vs = some p) : SoundC Tryz.prog 127 vs p := by
  unfold z105.pack at h; split at h <;> cases h
  exact plain_sound tab_ok mixed_ok rfl rfl rfl rfl (fun g vs p h => by unfold z105.C at h; simp only at h; split at h; exact z89.sound vs p h; exact z101.sound vs p h; simp at h) fun127 rfl (z105.link _ _ _) z105.hdec
theorem fun207 : FunOK Tryz.prog 207 Tryz.f207 (ifun Tryz.f207).body := ⟨Tryz.func207, rfl, by kernel_rfl⟩
theorem z106.hdec : DecOK z106.dec z106.enc := by
  intro v r h
  unfold z106.dec at h; split at h <;> cases h
  exact ⟨rfl, rfl⟩
theorem z106.sound (vs : List V) (p : Pack) (h : z106.pack vs = some p) : SoundC Tryz.prog 207 vs p := by
  unfold z106.pack at h; split at h <;> cases h
  exact plain_sound tab_ok mixed_ok rfl rfl rfl rfl (fun g vs p h => by unfold z106.C at h; simp only at h; split at h; exact z8.sound vs p h; exact z14.sound vs p h; simp at h) fun207 rfl (z106.link _ _ _ _ _ _) z106.hdec
theorem fun128 : FunOK Tryz.prog 128 Tryz.f128 (ifun Tryz.f128).body := ⟨Tryz.func128, rfl, by kernel_rfl⟩
theorem z107.hdec : DecOK z107.dec z107.enc := by
  intro v r h
  unfold z107.dec at h; split at h <;> cases h
  exact ⟨rfl, rfl⟩
theorem z107.sound (vs : List V) (p : Pack) (h : z107.pack vs = some p) : SoundC Tryz.prog 128 vs p := by
  unfold z107.pack at h; split at h <;> cases h
  exact plain_sound tab_ok mixed_ok rfl rfl rfl rfl (fun g vs p h => by unfold z107.C at h; simp only at h; split at h; exact z106.sound vs p h; exact z97.sound vs p h; simp at h) fun128 rfl (z107.link _ _ _ _ _ _) z107.hdec
theorem fun129 : FunOK Tryz.prog 129 Tryz.f129 (ifun Tryz.f129).body := ⟨Tryz.func129, rfl, by kernel_rfl⟩
theorem z108.hdec : DecOK z108.dec z108.enc := by
  intro v r h
  unfold z108.dec at h; split at h <;> cases h
  exact ⟨rfl, rfl⟩
theorem z108.sound (vs : List V) (p : Pack) (h : z108.pack vs = some p) : SoundC Tryz.prog 129 vs p := by
  unfold z108.pack at h; split at h <;> cases h
  exact plain_sound tab_ok mixed_ok rfl rfl rfl rfl (fun g vs p h => by unfold z108.C at h; simp only at h; split at h; exact z106.sound vs p h; exact z8.sound vs p h; exact z14.sound vs p h; exact z102.sound vs p h; simp at h) fun129 rfl (z108.link _ _ _ _ _ _) z108.hdec
theorem fun39 : FunOK Tryz.prog 39 Tryz.f39 (ifun Tryz.f39).body := ⟨Tryz.func39, rfl, by kernel_rfl⟩
theorem z109.hdec : DecOK z109.dec z109.enc := by
  intro v r h
  unfold z109.dec at h; split at h <;> cases h
  exact ⟨rfl, rfl⟩
theorem z109.sound (vs : List V) (p : Pack) (h : z109.pack vs = some p) : SoundC Tryz.prog 39 vs p := by
  unfold z109.pack at h; split at h <;> cases h
  exact plain_sound tab_ok mixed_ok rfl rfl rfl rfl (fun g vs p h => by unfold z109.C at h; simp only at h; split at h; exact z103.sound vs p h; exact z104.sound vs p h; exact z105.sound vs p h; exact z107.sound vs p h; exact z108.sound vs p h; simp at h) fun39 rfl (z109.link _) z109.hdec
theorem z110.l0b4_sound (hI : InlOK Tryz.prog z110.C fun R => z110.C.inlK 6) : LoopS z110.C 6 189 0 0 (loopAt 0 (ifun Tryz.f189).body) z110.l0b4sh z110.l0b4pack := by
  refine loopS fun ls p h => ?_
  unfold z110.l0b4pack at h; split at h <;> cases h
  rename_i n5001 length5002 t5003 i5004 s5005
  exact loop_one hI (sh := z110.l0b4sh) (so := z110.l0b4sh) (F := fun R rec done x => z110.l0b4P length5002 rec done x) (enc := fun (x' : (Int × Int × (List Int))) => fillSt z110.l0b4sh [.i x'.1, .i length5002, .s t5003, .i x'.2.1, .li x'.2.2]) [0, 3, 4] [0, 3, 4] (n5001, i5004, s5005) (by kernel_rfl) (by kernel_rfl) (fun x => by kernel_rfl) (fun o => by kernel_rfl) fun R k d x' => z110.l0b4_link R k d (x'.1) length5002 t5003 (x'.2.1) (x'.2.2)
theorem fun189 : FunOK Tryz.prog 189 Tryz.f189 (ifun Tryz.f189).body := ⟨Tryz.func189, rfl, by kernel_rfl⟩
theorem once189 : loopsOnce (ifun Tryz.f189).body = true := by kernel_rfl
theorem z110.loopsT (hI : InlOK Tryz.prog z110.C fun R => z110.C.inlK 6) : LoopsOK z110.C (fun R => z110.C.inlK 6) 189 0 (ifun Tryz.f189).body := by
  intro id b hm st p hp
  obtain rfl := loopsOnce_mem once189 hm
  unfold z110.C at hp
  simp only at hp
  try split at hp
  all_goals first
    | (simp at hp; done)
    | (exfalso; omega)
    | exact z110.l0b4_sound hI st p hp
theorem z110.hdec : DecOK z110.dec z110.enc := by
  intro v r h
  unfold z110.dec at h; split at h <;> cases h
  exact ⟨rfl, rfl⟩
theorem z110.sound (vs : List V) (p : Pack) (h : z110.pack vs = some p) : SoundC Tryz.prog 189 vs p := by
  unfold z110.pack at h; split at h <;> cases h
  exact loops_sound tab_ok mixed_ok rfl rfl rfl (fun g vs p h => by simp [z110.C] at h) fun189 z110.loopsT rfl (z110.link _ _) z110.hdec
theorem z111.l2_sound (hI : InlOK Tryz.prog z111.C fun R => z111.C.inlK 6) : LoopS z111.C 6 101 2 0 (loopAt 2 (ifun Tryz.f101).body) z111.l2sh z111.l2pack := by
  refine loopS fun ls p h => ?_
  unfold z111.l2pack at h; split at h <;> cases h
  rename_i t2001 low2002 t2003 t2004 t2005 s2006 s2007 s2008
  exact loop_one hI (sh := z111.l2sh) (so := z111.l2sh) (F := fun R rec done x => z111.l2P t2003 t2004 rec done x) (enc := fun (x' : (Int × Int)) => fillSt z111.l2sh [.s t2001, .i x'.1, .li t2003, .i t2004, .i x'.2, .li s2006, .ls s2007, .li s2008]) [1, 4] [1, 4] (low2002, t2005) (by kernel_rfl) (by kernel_rfl) (fun x => by kernel_rfl) (fun o => by kernel_rfl) fun R k d x' => z111.l2_link R k d t2001 (x'.1) t2003 t2004 (x'.2) s2006 s2007 s2008
theorem z111.l0_sound (hI : InlOK Tryz.prog z111.C fun R => z111.C.inlK 6) : LoopS z111.C 6 101 0 0 (loopAt 0 (ifun Tryz.f101).body) z111.l0sh z111.l0pack := by
  refine loopS fun ls p h => ?_
  unfold z111.l0pack at h; split at h <;> cases h
  rename_i t1001 s1002 s1003
  exact loop_one hI (sh := z111.l0sh) (so := z111.l0sh) (F := fun R rec done x => z111.l0P  rec done x) (enc := fun (x' : ((List Int) × (List (List UInt8)))) => fillSt z111.l0sh [.s t1001, .li x'.1, .ls x'.2]) [1, 2] [1, 2] (s1002, s1003) (by kernel_rfl) (by kernel_rfl) (fun x => by kernel_rfl) (fun o => by kernel_rfl) fun R k d x' => z111.l0_link R k d t1001 (x'.1) (x'.2)
theorem z111.l4_sound (hI : InlOK Tryz.prog z111.C fun R => z111.C.inlK 6) : LoopS z111.C 6 101 4 0 (loopAt 4 (ifun Tryz.f101).body) z111.l4sh z111.l4pack := by
  refine loopS fun ls p h => ?_
  unfold z111.l4pack at h; split at h <;> cases h
  rename_i t3001 i3002 s3003 s3004
  exact loop_one hI (sh := z111.l4sh) (so := z111.l4sh) (F := fun R rec done x => z111.l4P s3003 rec done x) (enc := fun (x' : (Int × (List Int))) => fillSt z111.l4sh [.s t3001, .i x'.1, .ls s3003, .li x'.2]) [1, 3] [1, 3] (i3002, s3004) (by kernel_rfl) (by kernel_rfl) (fun x => by kernel_rfl) (fun o => by kernel_rfl) fun R k d x' => z111.l4_link R k d t3001 (x'.1) s3003 (x'.2)
theorem fun101 : FunOK Tryz.prog 101 Tryz.f101 (ifun Tryz.f101).body := ⟨Tryz.func101, rfl, by kernel_rfl⟩
theorem once101 : loopsOnce (ifun Tryz.f101).body = true := by kernel_rfl
theorem fun191 : FunOK Tryz.prog 191 Tryz.f191 (ifun Tryz.f191).body := ⟨Tryz.func191, rfl, by kernel_rfl⟩
theorem fun190 : FunOK Tryz.prog 190 Tryz.f190 (ifun Tryz.f190).body := ⟨Tryz.func190, rfl, by kernel_rfl⟩
theorem z111.loopsT (hI : InlOK Tryz.prog z111.C fun R => z111.C.inlK 6) : LoopsOK z111.C (fun R => z111.C.inlK 6) 101 0 (ifun Tryz.f101).body := by
  intro id b hm st p hp
  obtain rfl := loopsOnce_mem once101 hm
  unfold z111.C at hp
  simp only at hp
  try split at hp
  all_goals first
    | (simp at hp; done)
    | (exfalso; omega)
    | exact z111.l2_sound hI st p hp
    | exact z111.l0_sound hI st p hp
    | exact z111.l4_sound hI st p hp
theorem z111.loops191 (hI : InlOK Tryz.prog z111.C fun R => z111.C.inlK 0) (base : Nat) : LoopsOK z111.C (fun R => z111.C.inlK 0) 191 base (ifun Tryz.f191).body := by
  intro id b hm st p hp
  exfalso
  unfold z111.C at hp
  simp only at hp
  try split at hp
  all_goals first | (simp at hp; done) | omega
theorem z111.loops190 (hI : InlOK Tryz.prog z111.C fun R => z111.C.inlK 1) (base : Nat) : LoopsOK z111.C (fun R => z111.C.inlK 1) 190 base (ifun Tryz.f190).body := by
  intro id b hm st p hp
  exfalso
  unfold z111.C at hp
  simp only at hp
  try split at hp
  all_goals first | (simp at hp; done) | omega
theorem prim246 : SoundP Tryz.prog 246 (copyP 274) := copy_prim
theorem z111.inlF : InlF Tryz.prog z111.C where
  prim g h hp := by
    unfold z111.C at hp; simp only at hp; split at hp
    · simp only [Option.some.injEq] at hp; subst hp; exact prim246
    · simp at hp
  fn g fn h := by
    unfold z111.C at h; simp only at h; split at h
    · simp only [Option.some.injEq] at h; subst h; exact ⟨_, _, fun191, rfl⟩
    · simp only [Option.some.injEq] at h; subst h; exact ⟨_, _, fun190, rfl⟩
    · simp at h
  loops g fn h := by
    unfold z111.C at h; simp only at h; split at h
    · simp only [Option.some.injEq] at h; subst h; exact fun hI base => z111.loops191 hI base
    · simp only [Option.some.injEq] at h; subst h; exact fun hI base => z111.loops190 hI base
    · simp at h
theorem z111.hdec : DecOK z111.dec z111.enc := by
  intro v r h
  unfold z111.dec at h; split at h <;> cases h
  exact ⟨rfl, rfl⟩
theorem z111.sound (vs : List V) (p : Pack) (h : z111.pack vs = some p) : SoundC Tryz.prog 101 vs p := by
  unfold z111.pack at h; split at h <;> cases h
  exact full_sound tab_ok mixed_ok rfl (fun g vs p h => by unfold z111.C at h; simp only at h; split at h; exact z15.sound vs p h; exact z34.sound vs p h; exact z61.sound vs p h; exact z56.sound vs p h; exact z110.sound vs p h; simp at h) z111.inlF fun101 z111.loopsT rfl (z111.link _) z111.hdec
theorem fun25 : FunOK Tryz.prog 25 Tryz.f25 (ifun Tryz.f25).body := ⟨Tryz.func25, rfl, by kernel_rfl⟩
theorem z112.hdec : DecOK z112.dec z112.enc := by
  intro v r h
  unfold z112.dec at h; split at h <;> cases h
  exact ⟨rfl, rfl⟩
theorem z112.sound (vs : List V) (p : Pack) (h : z112.pack vs = some p) : SoundC Tryz.prog 25 vs p := by
  unfold z112.pack at h; split at h <;> cases h
  exact plain_sound tab_ok mixed_ok rfl rfl rfl rfl (fun g vs p h => by unfold z112.C at h; simp only at h; split at h; exact z111.sound vs p h; simp at h) fun25 rfl (z112.link _ _) z112.hdec
theorem fun41 : FunOK Tryz.prog 41 Tryz.f41 (ifun Tryz.f41).body := ⟨Tryz.func41, rfl, by kernel_rfl⟩
theorem z113.hdec : DecOK z113.dec z113.enc := by
  intro v r h
  unfold z113.dec at h; split at h <;> cases h
  exact ⟨rfl, rfl⟩
theorem z113.sound (vs : List V) (p : Pack) (h : z113.pack vs = some p) : SoundC Tryz.prog 41 vs p := by
  unfold z113.pack at h; split at h <;> cases h
  exact plain_sound tab_ok mixed_ok rfl rfl rfl rfl (fun g vs p h => by unfold z113.C at h; simp only at h; split at h; exact z15.sound vs p h; exact z112.sound vs p h; exact z66.sound vs p h; exact z111.sound vs p h; simp at h) fun41 rfl (z113.link _ _ _) z113.hdec
theorem z114.l0_sound (hI : InlOK Tryz.prog z114.C fun R => z114.C.inlK 6) : LoopS z114.C 6 136 0 0 (loopAt 0 (ifun Tryz.f136).body) z114.l0sh z114.l0pack := by
  refine loopS fun ls p h => ?_
  unfold z114.l0pack at h; split at h <;> cases h
  rename_i s1001 v1002 t1003 t1004 t1005
  exact loop_two hI (sh := z114.l0sh) (so := z114.l0sh) (so' := z114.l0so1) (F := fun R rec done x => z114.l0P s1001 v1002 t1004 rec done x) (enc := fun (x' : Int) => fillSt z114.l0sh [.ls s1001, .s v1002, .i t1003, .i t1004, .i x']) (.exit 0) [4] [4] [0] t1005 (by kernel_rfl) (by kernel_rfl) (fun x => by kernel_rfl) (fun o => by kernel_rfl) (fun o => by kernel_rfl) fun R k d x' => z114.l0_link R k d s1001 v1002 t1003 t1004 (x')
theorem fun136 : FunOK Tryz.prog 136 Tryz.f136 (ifun Tryz.f136).body := ⟨Tryz.func136, rfl, by kernel_rfl⟩
theorem once136 : loopsOnce (ifun Tryz.f136).body = true := by kernel_rfl
theorem z114.loopsT (hI : InlOK Tryz.prog z114.C fun R => z114.C.inlK 6) : LoopsOK z114.C (fun R => z114.C.inlK 6) 136 0 (ifun Tryz.f136).body := by
  intro id b hm st p hp
  obtain rfl := loopsOnce_mem once136 hm
  unfold z114.C at hp
  simp only at hp
  try split at hp
  all_goals first
    | (simp at hp; done)
    | (exfalso; omega)
    | exact z114.l0_sound hI st p hp
theorem z114.hdec : DecOK z114.dec z114.enc := by
  intro v r h
  unfold z114.dec at h; split at h <;> cases h
  exact ⟨rfl, rfl⟩
theorem z114.sound (vs : List V) (p : Pack) (h : z114.pack vs = some p) : SoundC Tryz.prog 136 vs p := by
  unfold z114.pack at h; split at h <;> cases h
  exact loops_sound tab_ok mixed_ok rfl rfl rfl (fun g vs p h => by simp [z114.C] at h) fun136 z114.loopsT rfl (z114.link _ _) z114.hdec
theorem fun46 : FunOK Tryz.prog 46 Tryz.f46 (ifun Tryz.f46).body := ⟨Tryz.func46, rfl, by kernel_rfl⟩
theorem z115.hdec : DecOK z115.dec z115.enc := by
  intro v r h
  unfold z115.dec at h; split at h <;> cases h
  exact ⟨rfl, rfl⟩
theorem z115.sound (vs : List V) (p : Pack) (h : z115.pack vs = some p) : SoundC Tryz.prog 46 vs p := by
  unfold z115.pack at h; split at h <;> cases h
  exact plain_sound tab_ok mixed_ok rfl rfl rfl rfl (fun g vs p h => by unfold z115.C at h; simp only at h; split at h; exact z70.sound vs p h; exact z114.sound vs p h; simp at h) fun46 rfl (z115.link _) z115.hdec
theorem fun40 : FunOK Tryz.prog 40 Tryz.f40 (ifun Tryz.f40).body := ⟨Tryz.func40, rfl, by kernel_rfl⟩
theorem z116.hdec : DecOK z116.dec z116.enc := by
  intro v r h
  unfold z116.dec at h; split at h <;> cases h
  exact ⟨rfl, rfl⟩
theorem z116.sound (vs : List V) (p : Pack) (h : z116.pack vs = some p) : SoundC Tryz.prog 40 vs p := by
  unfold z116.pack at h; split at h <;> cases h
  exact plain_sound tab_ok mixed_ok rfl rfl rfl rfl (fun g vs p h => by unfold z116.C at h; simp only at h; split at h; exact z69.sound vs p h; exact z42.sound vs p h; exact z115.sound vs p h; exact z113.sound vs p h; exact z84.sound vs p h; simp at h) fun40 rfl z116.link z116.hdec
theorem fun42 : FunOK Tryz.prog 42 Tryz.f42 (ifun Tryz.f42).body := ⟨Tryz.func42, rfl, by kernel_rfl⟩
theorem z117.hdec : DecOK z117.dec z117.enc := by
  intro v r h
  unfold z117.dec at h; split at h <;> cases h
  exact ⟨rfl, rfl⟩
theorem z117.sound (vs : List V) (p : Pack) (h : z117.pack vs = some p) : SoundC Tryz.prog 42 vs p := by
  unfold z117.pack at h; split at h <;> cases h
  exact plain_sound tab_ok mixed_ok rfl rfl rfl rfl (fun g vs p h => by unfold z117.C at h; simp only at h; split at h; exact z7.sound vs p h; exact z6.sound vs p h; simp at h) fun42 rfl (z117.link _ _ _) z117.hdec
theorem fun5 : FunOK Tryz.prog 5 Tryz.f5 (ifun Tryz.f5).body := ⟨Tryz.func5, rfl, by kernel_rfl⟩
theorem z118.hdec : DecOK z118.dec z118.enc := by
  intro v r h
  unfold z118.dec at h; split at h <;> cases h
  exact ⟨rfl, rfl⟩
theorem z118.sound (vs : List V) (p : Pack) (h : z118.pack vs = some p) : SoundC Tryz.prog 5 vs p := by
  unfold z118.pack at h; split at h <;> cases h
  exact plain_sound tab_ok mixed_ok rfl rfl rfl rfl (fun g vs p h => by unfold z118.C at h; simp only at h; split at h; exact z42.sound vs p h; exact z98.sound vs p h; exact z69.sound vs p h; exact z109.sound vs p h; exact z116.sound vs p h; exact z112.sound vs p h; exact z7.sound vs p h; exact z113.sound vs p h; exact z117.sound vs p h; simp at h) fun5 rfl (z118.link _) z118.hdec
end
end Go.Proofs.YtgjncgiekniniaaGreatDoor.A
end
section
set_option linter.unusedVariables false
set_option linter.unusedSimpArgs false
namespace Go.Proofs.YtgjncgiekniniaaGreatDoor.A
open Go Go.RowKit Go.ChangeShapes Go.WideShapes
noncomputable section
inductive SC where
  | b
  | i (k : IntKind)
  | s
inductive CT where
  | sc (c : SC)
  | sl (cs : List SC)
def scOf : CT → Option SC
  | .sc c => some c
  | _ => none
def scsOf : List CT → Option (List SC)
  | [] => some []
  | c :: l => (scOf c).bind fun x => (scsOf l).map (x :: ·)
def okS : SC → V → Prop
  | .b, v => ∃ x, v = .bool x
  | .i k, v => ∃ n, v = .int k n ∧ (Lit.int k n).wf = true
  | .s, v => ∃ l, v = .str l ∧ l.length ≤ maxLen
def okSL : List SC → List V → Prop
  | [], vs => vs = []
  | c :: cs, vs => ∃ v l, vs = v :: l ∧ okS c v ∧ okSL cs l
def okC : CT → V → Prop
  | .sc c, v => okS c v
  | .sl [.i k], v => ∃ l, v = .ints false k l ∧ (∀ n ∈ l, (Lit.int k n).wf = true) ∧ l.length ≤ maxLen
  | .sl [.s], v => ∃ l, v = .strs false l ∧ (∀ s ∈ l, s.length ≤ maxLen) ∧ l.length ≤ maxLen
  | .sl cs, v => ∃ l, v = .recs false cs.length l ∧ (∀ r ∈ l, okSL cs r) ∧ l.length ≤ maxLen
def okCL : List CT → List V → Prop
  | [], vs => vs = []
  | c :: cs, vs => ∃ v l, vs = v :: l ∧ okC c v ∧ okCL cs l
def ctsF (P : Program) (rec : TypeId → Option (List CT)) : Nat → List Field → Option (List CT)
  | _, [] => some []
  | off, f :: fs => if f.offset = off then (rec f.type).bind fun l => if P.cellsOf f.type = l.length then (ctsF P rec (off + l.length) fs).map (l ++ ·) else none else none
def ctsA (l : List CT) : Nat → List CT
  | 0 => []
  | n + 1 => l ++ ctsA l n
def cts (P : Program) : Nat → TypeId → Option (List CT)
  | 0, _ => none
  | n + 1, t =>
    match P.underlying t with
    | some .bool => some [.sc .b]
    | some (.int k) => some [.sc (.i k)]
    | some .string => some [.sc .s]
    | some (.struct fs) => (ctsF P (cts P n) 0 fs.toList).bind fun l => if P.cellsOf t = l.length then some l else none
    | some (.array m e) => (cts P n e).bind fun l => if P.cellsOf e = l.length ∧ P.cellsOf t = m * l.length then some (ctsA l m) else none
    | some (.slice e) => (cts P n e).bind fun l => (scsOf l).bind fun cs => if P.cellsOf e = cs.length ∧ 0 < cs.length then some [.sl cs] else none
    | _ => none
abbrev noO : Nat → Prop := fun _ => False
def cellR (W : World) (c : CT) (cv : Value) (v : V) : Prop := okC c v ∧ Rep0 noO W cv v ∧ cv.oneCell' = true
def cellsR (W : World) (l : List CT) (cs : List Value) (vs : List V) : Prop :=
  cs.length = l.length ∧ vs.length = l.length ∧ ∀ (j : Nat) (c : CT) (cv : Value) (v : V), l[j]? = some c → cs[j]? = some cv → vs[j]? = some v → cellR W c cv v
theorem cellsR_nil (W : World) : cellsR W [] [] [] := ⟨rfl, rfl, fun (j : Nat) c cv v h => by simp at h⟩
theorem cellsR_one {W : World} {c : CT} {cv : Value} {v : V} (h : cellR W c cv v) : cellsR W [c] [cv] [v] := by
  refine ⟨rfl, rfl, fun j c' cv' v' h1 h2 h3 => ?_⟩
  cases j with
  | zero => simp at h1 h2 h3; subst h1 h2 h3; exact h
  | succ j => simp at h1
theorem cellsR_append {W : World} {l l' : List CT} {cs cs' : List Value} {vs vs' : List V} (h : cellsR W l cs vs) (h' : cellsR W l' cs' vs') : cellsR W (l ++ l') (cs ++ cs') (vs ++ vs') := by
  obtain ⟨a1, a2, a3⟩ := h; obtain ⟨b1, b2, b3⟩ := h'
  refine ⟨by simp [a1, b1], by simp [a2, b2], fun j c cv v h1 h2 h3 => ?_⟩
  by_cases hj : j < l.length
  · rw [List.getElem?_append_left hj] at h1
    rw [List.getElem?_append_left (by omega)] at h2 h3
    exact a3 j c cv v h1 h2 h3
  · rw [List.getElem?_append_right (by omega)] at h1 h2 h3
    rw [a1] at h2; rw [a2] at h3
    exact b3 _ c cv v h1 h2 h3
theorem okCL_of {W : World} : ∀ {l : List CT} {cs : List Value} {vs : List V}, cellsR W l cs vs → okCL l vs
  | [], cs, vs, h => List.length_eq_zero_iff.1 h.2.1
  | c :: l, cs, vs, h => by
    obtain ⟨h1, h2, h3⟩ := h
    match cs, vs, h1, h2 with
    | cv :: cs, v :: vs, h1, h2 =>
      exact ⟨v, vs, rfl, (h3 0 c cv v rfl rfl rfl).1, okCL_of (cs := cs) ⟨by simpa using h1, by simpa using h2, fun j c' cv' v' a b d => h3 (j + 1) c' cv' v' (by simpa using a) (by simpa using b) (by simpa using d)⟩⟩
theorem okSL_of : ∀ {l : List CT} {ss : List SC} {vs : List V}, scsOf l = some ss → okCL l vs → okSL ss vs
  | [], ss, vs, h, hv => by simp [scsOf] at h; subst h; exact hv
  | c :: l, ss, vs, h, hv => by
    simp only [scsOf, Option.bind_eq_some_iff, Option.map_eq_some_iff] at h
    obtain ⟨x, hx, y, hy, rfl⟩ := h
    obtain ⟨v, r, rfl, h1, h2⟩ := hv
    refine ⟨v, r, rfl, ?_, okSL_of hy h2⟩
    cases c with
    | sc c => simp [scOf] at hx; subst hx; exact h1
    | sl _ => simp [scOf] at hx
theorem scsOf_len : ∀ {l : List CT} {ss : List SC}, scsOf l = some ss → ss.length = l.length
  | [], ss, h => by simp [scsOf] at h; subst h; rfl
  | c :: l, ss, h => by
    simp only [scsOf, Option.bind_eq_some_iff, Option.map_eq_some_iff] at h
    obtain ⟨x, hx, y, hy, rfl⟩ := h
    simp [scsOf_len hy]
theorem list_of_each {α : Type} {Q : Nat → α → Prop} : ∀ {n : Nat}, (∀ i, i < n → ∃ x, Q i x) → ∃ l : List α, l.length = n ∧ ∀ (i : Nat) (x : α), l[i]? = some x → Q i x
  | 0, _ => ⟨[], rfl, fun i x h => by simp at h⟩
  | n + 1, h => by
    obtain ⟨l, h1, h2⟩ := list_of_each (n := n) fun i hi => h i (by omega)
    obtain ⟨x, hx⟩ := h n (by omega)
    refine ⟨l ++ [x], by simp [h1], fun i y hy => ?_⟩
    by_cases hi : i < l.length
    · rw [List.getElem?_append_left hi] at hy; exact h2 i y hy
    · rw [List.getElem?_append_right (by omega)] at hy
      have : i - l.length = 0 := by
        rcases Nat.lt_or_ge (i - l.length) 1 with h0 | h0
        · omega
        · rw [List.getElem?_eq_none (by simp; omega)] at hy; simp at hy
      rw [this] at hy; simp at hy; subst hy
      have : i = n := by omega
      subst this; exact hx
theorem flatten_getz {α : Type} (z : Nat) (hz : 0 < z) : ∀ (l : List (List α)) (j : Nat), (∀ e ∈ l, e.length = z) → l.flatten[j]? = (l[j / z]?).bind (·[j % z]?)
  | [], j, _ => by simp
  | e :: l, j, h => by
    have he := h e (by simp)
    rw [List.flatten_cons]
    by_cases hj : j < z
    · rw [List.getElem?_append_left (by omega), Nat.div_eq_of_lt hj, Nat.mod_eq_of_lt hj]; rfl
    · rw [List.getElem?_append_right (by omega), flatten_getz z hz l _ (fun x hx => h x (by simp [hx])), he]
      have h1 : j / z = (j - z) / z + 1 := by rw [← Nat.add_div_right (j - z) hz, Nat.sub_add_cancel (by omega)]
      have h2 : j % z = (j - z) % z := by rw [← Nat.add_mod_right (j - z) z, Nat.sub_add_cancel (by omega)]
      rw [h1, h2]; rfl
theorem ones {α : Type} {c : SC} {f : α → V} {Q : α → Prop} (hc : ∀ v, okS c v → ∃ n, v = f n ∧ Q n) : ∀ vss : List (List V), (∀ r ∈ vss, okSL [c] r) →
    ∃ zs : List α, vss.flatten = zs.map f ∧ zs.length = vss.length ∧ ∀ n ∈ zs, Q n
  | [], _ => ⟨[], rfl, rfl, by simp⟩
  | r :: vss, h => by
    obtain ⟨zs, e1, e2, e3⟩ := ones hc vss fun x hx => h x (by simp [hx])
    obtain ⟨v, l, rfl, hv, hl⟩ := h r (by simp)
    have hl : l = [] := hl
    subst hl
    obtain ⟨n, rfl, hq⟩ := hc v hv
    exact ⟨n :: zs, by simp [e1], by simp [e2], by simpa using ⟨hq, e3⟩⟩
theorem sl_rows {W : World} {t e n m : Nat} {ss : List SC} {l : List CT} {a : Addr} {len cap : Nat} (hs : scsOf l = some ss) (hz : 0 < ss.length) (hl : len ≤ cap) (hm : cap ≤ maxLen)
    (h : ∀ i, i < len → ∃ cs vs, W.cells? 0 (a.add (i * ss.length)) ss.length = some cs ∧ cellsR W l cs vs) : ∃ v, okC (.sl ss) v ∧ Rep0 noO W (.slice (some a) len cap) v := by
  obtain ⟨rows, h1, h2⟩ := list_of_each h
  have hsl := scsOf_len hs
  have hrow : ∀ (i : Nat) (r : List Value), rows[i]? = some r → ∃ vs : List V, r.length = ss.length ∧ okSL ss vs ∧ vs.length = ss.length ∧ ∀ (j : Nat) (cv : Value) (v : V), r[j]? = some cv → vs[j]? = some v → W.cell? (a.add (i * ss.length + j)) = some cv ∧ Rep0 noO W cv v ∧ cv.oneCell' = true := by
    intro i r hr
    obtain ⟨vs, hc, hv⟩ := h2 i r hr
    obtain ⟨_, hlen, hcell⟩ := World.cells?_some hc
    refine ⟨vs, hlen, okSL_of hs (okCL_of hv), hv.2.1.trans hsl.symm, fun j cv v hj hjv => ?_⟩
    have hjl : j < l.length := by have := (List.getElem?_eq_some_iff.1 hj).1; omega
    have := hv.2.2 j l[j] cv v (by simp) hj hjv
    refine ⟨?_, this.2⟩
    rw [← Go.Deep.add_add, hcell j (by omega), hj]
  have hall : ∀ i, i < rows.length → ∃ vs : List V, okSL ss vs ∧ vs.length = ss.length ∧ ∀ (j : Nat) (v : V), vs[j]? = some v → ∃ cv, W.cell? (a.add (i * ss.length + j)) = some cv ∧ Rep0 noO W cv v ∧ cv.oneCell' = true := by
    intro i hi
    obtain ⟨vs, q1, q2, q3, q4⟩ := hrow i rows[i] (by simp [hi])
    refine ⟨vs, q2, q3, fun j v hv => ?_⟩
    have : j < ss.length := by have := (List.getElem?_eq_some_iff.1 hv).1; omega
    exact ⟨_, q4 j (rows[i][j]'(by omega)) v (by simp) hv⟩
  obtain ⟨vss, g1, g2⟩ := list_of_each hall
  have hvlen : ∀ e ∈ vss, e.length = ss.length := fun e he => by obtain ⟨i, hi, rfl⟩ := List.getElem_of_mem he; exact (g2 i _ (by simp [hi])).2.1
  have gen : ∀ v : V, flatV v = some (len, vss.flatten) → isExact v = false → Rep0 noO W (.slice (some a) len cap) v := by
    intro v hf hx
    have hcell : ∀ (j : Nat) (v : V), vss.flatten[j]? = some v → ∃ cv, W.cell? (a.add j) = some cv ∧ Rep0 noO W cv v ∧ cv.oneCell' = true := by
      intro j v hv
      rw [flatten_getz ss.length hz vss j hvlen] at hv
      obtain ⟨r, hr, hv⟩ := Option.bind_eq_some_iff.1 hv
      obtain ⟨cv, k1, k2⟩ := (g2 _ r hr).2.2 _ v hv
      refine ⟨cv, ?_, k2⟩
      rw [show j = j / ss.length * ss.length + j % ss.length by rw [Nat.mul_comm]; exact (Nat.div_add_mod j ss.length).symm]
      exact k1
    refine .slice (some a) len cap v vss.flatten (fun j => (W.cell? (a.add j)).getD Go.undef) hf (by simp [hx]) hl (by simp) (fun j hj => ?_) (fun j hj => ?_) (fun j hj => ?_)
    · obtain ⟨cv, k1, k2, k3⟩ := hcell j _ (List.getElem?_eq_getElem hj)
      exact ⟨a, rfl, fun h => h.elim, by rw [k1]; rfl⟩
    · obtain ⟨cv, k1, k2, k3⟩ := hcell j _ (List.getElem?_eq_getElem hj)
      rw [k1]; exact k3
    · obtain ⟨cv, k1, k2, k3⟩ := hcell j _ (List.getElem?_eq_getElem hj)
      rw [k1]; exact k2
  have hlen' : vss.length = len := by omega
  have recs : ∃ v, (∃ l, v = V.recs false ss.length l ∧ (∀ r ∈ l, okSL ss r) ∧ l.length ≤ maxLen) ∧ Rep0 noO W (.slice (some a) len cap) v := by
    refine ⟨.recs false ss.length vss, ⟨vss, rfl, fun r hr => ?_, by omega⟩, gen _ ?_ rfl⟩
    · obtain ⟨i, hi, rfl⟩ := List.getElem_of_mem hr; exact (g2 i _ (by simp [hi])).1
    · simp only [flatV]; rw [if_pos ⟨hz, hvlen⟩, hlen']
  match ss, hs, hz, recs, g2, gen, hvlen with
  | [], _, hz, _, _, _, _ => simp at hz
  | [.b], _, _, recs, _, _, _ => exact recs
  | x :: y :: _, _, _, recs, _, _, _ => exact by cases x <;> exact recs
  | [.i k], _, _, recs, g2, gen, hvlen =>
    obtain ⟨zs, e1, e2, e3⟩ := ones (c := .i k) (f := V.int k) (fun v h => h) vss fun r hr => by
      obtain ⟨i, hi, rfl⟩ := List.getElem_of_mem hr; exact (g2 i _ (by simp [hi])).1
    refine ⟨.ints false k zs, ⟨zs, rfl, e3, by omega⟩, gen _ ?_ rfl⟩
    simp only [flatV]; rw [e1, e2, hlen']
  | [.s], _, _, recs, g2, gen, hvlen =>
    obtain ⟨zs, e1, e2, e3⟩ := ones (c := .s) (f := V.str) (fun v h => h) vss fun r hr => by
      obtain ⟨i, hi, rfl⟩ := List.getElem_of_mem hr; exact (g2 i _ (by simp [hi])).1
    refine ⟨.strs false zs, ⟨zs, rfl, e3, by omega⟩, gen _ ?_ rfl⟩
    simp only [flatV]; rw [e1, e2, hlen']
theorem sl_nil {W : World} {ss : List SC} (hz : 0 < ss.length) : ∃ v, okC (.sl ss) v ∧ Rep0 noO W (.slice none 0 0) v := by
  have gen : ∀ v : V, flatV v = some (0, []) → isExact v = false → Rep0 noO W (.slice none 0 0) v := fun v hf hx =>
    .slice none 0 0 v [] (fun _ => Go.undef) hf (by simp [hx]) (Nat.le_refl _) (fun _ => rfl) (fun j hj => by simp at hj) (fun j hj => by simp at hj) (fun j hj => by simp at hj)
  match ss, hz with
  | [.i k], _ => exact ⟨.ints false k [], ⟨[], rfl, by simp, by simp⟩, gen _ rfl rfl⟩
  | [.s], _ => exact ⟨.strs false [], ⟨[], rfl, by simp, by simp⟩, gen _ rfl rfl⟩
  | [.b], _ => exact ⟨.recs false 1 [], ⟨[], rfl, by simp, by simp⟩, gen _ (by simp [flatV]) rfl⟩
  | a :: a' :: ss, _ => exact ⟨.recs false (a :: a' :: ss).length [], by cases a <;> exact ⟨[], rfl, by simp, by simp⟩, gen _ (by simp [flatV]) rfl⟩
section
variable {H : Type} {enc : TypeId × Value → H} {P : Program} {W : World}
theorem trod_cells : ∀ (n : Nat) (t : TypeId) (l : List CT), cts P n t = some l → ∀ (fuel : Nat) (cs : List Value) (x : DataW H × List MemPlace), DataW.trod enc P W 0 (fun _ => true) true fuel t cs = some x →
    ∃ vs, cellsR W l cs vs
  | 0, t, l, h, _, _, _, _ => by simp [cts] at h
  | n + 1, t, l, h, fuel, cs, x, hx => by
    unfold cts at h
    split at h
    · rename_i ht
      simp at h; subst h
      obtain ⟨bb, rfl, _⟩ := DataW.trod_bool ht hx
      exact ⟨[.bool bb], cellsR_one ⟨⟨bb, rfl⟩, .bool bb, rfl⟩⟩
    · rename_i k ht
      simp at h; subst h
      obtain ⟨b, rfl, _, hw⟩ := DataW.trod_int ht hx
      exact ⟨[.int k b], cellsR_one ⟨⟨b, rfl, hw⟩, .int k b, rfl⟩⟩
    · rename_i ht
      simp at h; subst h
      obtain ⟨b, rfl, _, hw⟩ := DataW.trod_string ht hx
      exact ⟨[.str b.data.toList], cellsR_one ⟨⟨_, rfl, by simpa using hw⟩, .str _ _ rfl, rfl⟩⟩
    · rename_i fs ht
      obtain ⟨l', h1, h2⟩ := Option.bind_eq_some_iff.1 h
      split at h2
      case isFalse => simp at h2
      rename_i hsz
      simp at h2; subst h2
      obtain ⟨xs, m, _, _, hlen, hxl, hf⟩ := DataW.trod_struct ht hx
      have key : ∀ (gs : List Field) (off : Nat) (l' : List CT), ctsF P (cts P n) off gs = some l' → (∀ f ∈ gs, ∃ y, DataW.trod enc P W 0 (fun _ => true) true m f.type ((cs.drop f.offset).take (P.cellsOf f.type)) = some y) →
          ∃ vs, cellsR W l' ((cs.drop off).take l'.length) vs := by
        intro gs
        induction gs with
        | nil => intro off l' h _; simp [ctsF] at h; subst h; exact ⟨[], by simpa using cellsR_nil W⟩
        | cons f gs ih =>
          intro off l' h hg
          unfold ctsF at h
          split at h
          case isFalse => simp at h
          rename_i hoff
          obtain ⟨lf, h1, h2⟩ := Option.bind_eq_some_iff.1 h
          split at h2
          case isFalse => simp at h2
          rename_i hsz
          obtain ⟨l2, h3, rfl⟩ := Option.map_eq_some_iff.1 h2
          obtain ⟨y, hy⟩ := hg f (by simp)
          obtain ⟨vs1, c1⟩ := trod_cells n f.type lf h1 m _ y hy
          obtain ⟨vs2, c2⟩ := ih _ _ h3 fun f' hf' => hg f' (by simp [hf'])
          refine ⟨vs1 ++ vs2, ?_⟩
          have hc := cellsR_append c1 c2
          rw [hoff, hsz] at hc
          have hl1 : lf.length ≤ (cs.drop off).length := by
            have := c1.1; rw [hoff, hsz, List.length_take] at this; omega
          rw [List.length_append, List.take_add, List.drop_drop]
          exact hc
      have hall : ∀ f ∈ fs.toList, ∃ y, DataW.trod enc P W 0 (fun _ => true) true m f.type ((cs.drop f.offset).take (P.cellsOf f.type)) = some y := by
        intro f hf'
        obtain ⟨i, hi, rfl⟩ := List.getElem_of_mem hf'
        have hi' : i < fs.size := by simpa using hi
        have := hf i (fs.toList[i]) (by simp [hi'])
        rw [List.getElem?_eq_getElem (by omega)] at this
        exact ⟨_, this⟩
      obtain ⟨vs, hv⟩ := key fs.toList 0 _ h1 hall
      refine ⟨vs, ?_⟩
      rwa [List.drop_zero, List.take_of_length_le (by omega)] at hv
    · rename_i m e ht
      obtain ⟨l', h1, h2⟩ := Option.bind_eq_some_iff.1 h
      split at h2
      case isFalse => simp at h2
      rename_i hsz
      simp at h2; subst h2
      obtain ⟨xs, q, _, _, hlen, hxl, hf⟩ := DataW.trod_array ht hx
      have key : ∀ (k : Nat), k ≤ m → ∃ vs, cellsR W (ctsA l' k) ((cs.drop ((m - k) * l'.length)).take (k * l'.length)) vs := by
        intro k
        induction k with
        | zero => intro _; exact ⟨[], by simpa [ctsA] using cellsR_nil W⟩
        | succ k ih =>
          intro hk
          obtain ⟨vs2, c2⟩ := ih (by omega)
          have h3 := hf (m - (k + 1)) (by omega)
          rw [List.getElem?_eq_getElem (by omega)] at h3
          obtain ⟨vs1, c1⟩ := trod_cells n e l' h1 q _ _ h3
          refine ⟨vs1 ++ vs2, ?_⟩
          have hc := cellsR_append c1 c2
          rw [hsz.1] at hc
          have e1 : (m - k) * l'.length = (m - (k + 1)) * l'.length + l'.length := by
            rw [← Nat.succ_mul]; congr 1; omega
          have e2 : (k + 1) * l'.length = l'.length + k * l'.length := by rw [Nat.succ_mul, Nat.add_comm]
          rw [e1, ← List.drop_drop] at hc
          rw [e2, List.take_add]
          exact hc
      obtain ⟨vs, hv⟩ := key m (Nat.le_refl _)
      refine ⟨vs, ?_⟩
      rwa [Nat.sub_self, Nat.zero_mul, List.drop_zero, List.take_of_length_le (by omega)] at hv
    · rename_i e ht
      obtain ⟨l', h1, h2⟩ := Option.bind_eq_some_iff.1 h
      obtain ⟨ss, h3, h4⟩ := Option.bind_eq_some_iff.1 h2
      split at h4
      case isFalse => simp at h4
      rename_i hsz
      simp at h4; subst h4
      rcases Go.Deep.open_slice ht hx with ⟨rfl, _⟩ | ⟨a, len, cap, m, q, D, Pl, rfl, _, hl, hm, hmm, _, hi⟩
      · obtain ⟨v, k1, k2⟩ := sl_nil (W := W) hsz.2
        exact ⟨[v], cellsR_one ⟨k1, k2, rfl⟩⟩
      · simp only [if_true] at hmm
        subst hmm
        rw [hsz.1] at hi
        obtain ⟨v, k1, k2⟩ := sl_rows (t := 0) (e := 0) (n := 0) (m := 0) h3 hsz.2 hl hm fun i hi' => by
          obtain ⟨cs', c1, c2⟩ := hi i (by omega)
          obtain ⟨vs, c3⟩ := trod_cells n e l' h1 q _ _ c2
          exact ⟨cs', vs, c1, c3⟩
        exact ⟨[v], cellsR_one ⟨k1, k2, rfl⟩⟩
    · simp at h
inductive AT where
  | one (c : CT)
  | agg (l : List CT)
def okA : AT → V → Prop
  | .one c, v => okC c v
  | .agg l, v => ∃ vs, v = .agg vs ∧ okCL l vs
def okAL : List AT → List V → Prop
  | [], vs => vs = []
  | c :: cs, vs => ∃ v l, vs = v :: l ∧ okA c v ∧ okAL cs l
def atOf (P : Program) (n : Nat) (t : TypeId) : Option AT :=
  (cts P n t).bind fun l => match P.underlying t with
    | some (.struct _) | some (.array _ _) => some (.agg l)
    | _ => match l with
      | [c] => some (.one c)
      | _ => none
def atsOf (P : Program) (n : Nat) : List TypeId → Option (List AT)
  | [] => some []
  | t :: ts => (atOf P n t).bind fun x => (atsOf P n ts).map (x :: ·)
theorem arg_V {n : Nat} {t : TypeId} {q : AT} (hq : atOf P n t = some q) {base : Nat} {v : Value} {d : DataW H} {ps : List MemPlace} (hval : Value.okWide P W .any base t v) (h : DataW.Trod enc P W 0 (fun _ => true) true t v d ps) :
    ∃ x, okA q x ∧ Rep0 noO W v x := by
  obtain ⟨l, h1, h2⟩ := Option.bind_eq_some_iff.1 hq
  obtain ⟨fuel, hf⟩ := h
  obtain ⟨vs, hv⟩ := trod_cells n t l h1 fuel _ _ hf
  have aggCase : (∃ cs, v = .agg cs) → ∃ x, okA (.agg l) x ∧ Rep0 noO W v x := by
    rintro ⟨cs, rfl⟩
    have hc : (Value.agg cs).cells.toList = cs.toList := rfl
    rw [hc] at hv
    refine ⟨.agg vs, ⟨vs, rfl, okCL_of hv⟩, .agg cs vs (by have := hv.1; have := hv.2.1; simp at *; omega) (fun j hj => ?_) (fun j hj => ?_)⟩ <;>
    · have hj1 : j < cs.size := by have := hv.1; have := hv.2.1; simp at *; omega
      have := hv.2.2 j (l[j]'(by have := hv.2.1; omega)) cs[j] vs[j] (by simp) (by simp [hj1]) (by simp)
      have e : cs.getD j Go.undef = cs[j] := by simp [Array.getD, hj1]
      rw [e]
      first | exact this.2.2 | exact this.2.1
  split at h2
  · rename_i fs ht
    simp at h2; subst h2
    obtain ⟨cs, rfl, _⟩ := okWide_struct ht hval
    exact aggCase ⟨cs, rfl⟩
  · rename_i m e ht
    simp at h2; subst h2
    unfold Value.okWide at hval
    rw [ht] at hval
    obtain ⟨cs, rfl, _⟩ := hval
    exact aggCase ⟨cs, rfl⟩
  · rename_i hns hna
    split at h2
    case h_2 => simp at h2
    rename_i c
    simp at h2; subst h2
    obtain ⟨a1, a2, a3⟩ := hv
    match vs, a2 with
    | [x], _ =>
      have hcells : v.cells = #[v] := by
        cases v with
        | agg cs =>
          exfalso
          unfold Value.okWide at hval
          cases n with
          | zero => simp [cts] at h1
          | succ n =>
            unfold cts at h1
            split at h1 <;> rename_i ht
            · rw [ht] at hval; simp [Cell.okWide, Cell.ok, ht] at hval
            · rw [ht] at hval; simp [Cell.okWide, Cell.ok, ht] at hval
            · rw [ht] at hval; simp [Cell.okWide, Cell.ok, ht] at hval
            · exact hns _ ht
            · exact hna _ _ ht
            · rw [ht] at hval; simp [Cell.okWide, Cell.ok, ht] at hval
            · simp at h1
        | _ => rfl
      rw [hcells] at a3
      have := a3 0 c v x rfl rfl rfl
      exact ⟨x, this.1, this.2.1⟩
theorem args_V {n : Nat} : ∀ {ts : List TypeId} {qs : List AT} {args : List Value} {ds : List (DataW H)} {ps : List MemPlace} {base : Nat}, atsOf P n ts = some qs → DataW.TrodAll enc P W 0 (fun _ => true) true ts args ds ps →
    (∀ (j : Nat) t v, ts[j]? = some t → args[j]? = some v → Value.okWide P W .any base t v) →
    ∃ vs, args.length = vs.length ∧ okAL qs vs ∧ ∀ j (h : j < vs.length), Rep0 noO W (args.getD j Go.undef) vs[j]
  | [], qs, args, ds, ps, base, hq, h, _ => by
    simp [atsOf] at hq; subst hq
    obtain ⟨rfl, rfl, rfl⟩ := trodAll_nil h
    exact ⟨[], rfl, rfl, fun j h => by simp at h⟩
  | t :: ts, qs, args, ds, ps, base, hq, h, hval => by
    simp only [atsOf, Option.bind_eq_some_iff, Option.map_eq_some_iff] at hq
    obtain ⟨q, hq1, qs', hq2, rfl⟩ := hq
    obtain ⟨v, vs, d, ds', p, p', rfl, rfl, rfl, h1, h2⟩ := trodAll_cons h
    obtain ⟨x, k1, k2⟩ := arg_V hq1 (hval 0 t v rfl rfl) h1
    obtain ⟨xs, l1, l2, l3⟩ := args_V hq2 h2 fun j t v a b => hval (j + 1) t v (by simpa using a) (by simpa using b)
    refine ⟨x :: xs, by simp [l1], ⟨x, xs, rfl, k1, l2⟩, fun j hj => ?_⟩
    cases j with
    | zero => exact k2
    | succ j => simpa using l3 j (by simpa using hj)
theorem stays_all {ts : List TypeId} (hl : laidOutB P = true) (hr : ts.all (fun t => P.readableRec t && decide (t < P.types.size)) = true) {W' : World} (hb : Below W.heap.size W W') {sp : Nat → Bool} :
    ∀ {vs : List Value} {ds : List (DataW H)} {ps : List MemPlace}, DataW.TrodAll enc P W 0 (fun _ => true) true ts vs ds ps → (∀ x ∈ ps, x.block < W.heap.size) → (∀ x ∈ ps, sp x.block = true) →
      DataW.TrodAll enc P W' 0 sp true ts vs ds ps := by
  induction ts with
  | nil =>
    intro vs ds ps h _ _
    obtain ⟨rfl, rfl, rfl⟩ := trodAll_nil h
    exact trodAll_mk0
  | cons t ts ih =>
    intro vs ds ps h hlt hsp
    obtain ⟨v, vs', d, ds', p, p', rfl, rfl, rfl, h1, h2⟩ := trodAll_cons h
    simp only [List.all_cons, Bool.and_eq_true, decide_eq_true_eq] at hr
    exact trodAll_cons_mk (WideElems.Trod_stays hl hr.1.1 hr.1.2 h1 (fun x hx => hb.same (hlt x (by simp [hx]))) (fun x hx => hsp x (by simp [hx])))
      (ih hr.2 h2 (fun x hx => hlt x (by simp [hx])) (fun x hx => hsp x (by simp [hx])))
theorem post_below {f : Func} {s : ChangeSpec} {apart fresh handsOn again : Bool} {W W' : World} {args : Array Value} {v : Value} {ds gs : List (DataW H)} {before pa pv : List MemPlace}
    (hW : DataW.Whole enc P f.params.toList s.vars apart W args.toList ds gs before)
    (hres : ∀ (b : Nat) (sp : Nat → Bool) (hd : Bool), DataW.TrodAll enc P W' b sp hd f.resultTypes.toList (v.resultList f.resultTypes.size) (s.fn H (ds ++ gs)).results [])
    (hargs : ∀ sp : Nat → Bool, (∀ p ∈ before, sp p.block = true) → DataW.TrodAll enc P W' 0 sp true f.params.toList args.toList (s.fn H (ds ++ gs)).args pa)
    (hvars : ∀ sp : Nat → Bool, (∀ p ∈ before, sp p.block = true) → DataW.TrodVars enc P W' sp s.vars (s.fn H (ds ++ gs)).vars pv)
    (hps : before = pa ++ pv) (hb : Below W.heap.size W W')
    (hok : ∀ (j : Nat) (t : TypeId) (r : Value), f.resultTypes[j]? = some t → (v.resultList f.resultTypes.size)[j]? = some r → Value.okWide P W' .any 0 t r) :
    s.post enc P f apart fresh handsOn again W args v W' := by
  have hlt : ∀ p ∈ before, p.block < W.heap.size := fun p hp => hW.lt p hp
  have hold : ∀ p ∈ before, (fun b => decide (b < W.heap.size)) p.block = true := fun p hp => by simpa using hlt p hp
  refine ⟨ds, gs, before, [], pa, pv, hW, hres _ _ _, hargs _ hold, hvars _ hold, World.keptBut_mono (fun p hp => ⟨hp, ?_⟩) (hb.frame (· ∈ before)), fun _ => ?_⟩
  · rw [hps, List.mem_append] at hp
    exact Or.inr hp
  · obtain ⟨_, _, _, _, _, hz, hn⟩ := hW
    refine ⟨hok, _, _, ([] ++ pa) ++ pv, ⟨[] ++ pa, pv, trodAll_append (hargs _ (fun _ _ => rfl)) (hres _ _ _), hvars _ (fun _ _ => rfl), rfl, ?_, ?_⟩, ?_⟩
    · intro b off hp
      have hin : MemPlace.cell b off ∈ before := by rw [hps]; simpa using hp
      rw [hb.frozen (hlt _ hin)]
      exact hz b off hin
    · intro ha
      have := hn ha
      rw [hps] at this
      simpa using this
    · intro p hp _
      rw [hps]
      simpa using hp
theorem law_contract {g : Nat} {f : Func} {c : Code} (hf : FunOK P g f c) {s : ChangeSpec} {n : Nat} {qs : List AT} {tb : TypeId} (hl : laidOutB P = true) (hr : f.params.toList.all (fun t => P.readableRec t && decide (t < P.types.size)) = true)
    (hq : atsOf P n f.params.toList = some qs) (hres : f.resultTypes = #[tb]) (htb : P.underlying tb = some .bool) (hv : s.vars = [])
    (hs : ∀ ds : List (DataW H), ds.length = f.params.toList.length → s.fn H ds = { results := [.lit (.bool true)], args := ds })
    (plain : ∀ vs, okAL qs vs → ∃ p r, SoundC P g vs p ∧ p.m = some r ∧ p.enc r = .bool true)
    (W : World) (base : Nat) (args : Array Value) (ds gs : List (DataW H)) (before : List MemPlace)
    (hval : ∀ (j : Nat) t v, f.params[j]? = some t → args[j]? = some v → Value.okWide P W .any base t v)
    (hW : DataW.Whole enc P f.params.toList s.vars false W args.toList ds gs before) :
    Calls P g args W fun e W' => ∃ v, e = .returned v ∧ s.post enc P f false true false false W args v W' := by
  have hW' := hW
  have hlt : ∀ p ∈ before, p.block < W.heap.size := fun p hp => hW.lt p hp
  obtain ⟨p, q, hA, hV, rfl, hfz, hnd⟩ := hW
  have hA : DataW.TrodAll enc P W 0 (fun _ => true) true f.params.toList args.toList ds p := hA
  rw [hv] at hV
  obtain ⟨rfl, rfl⟩ := trodVars_none hV
  obtain ⟨vs, h1, h2, h3⟩ := args_V hq hA fun j t v a b => hval j t v (by simpa using a) (by simpa using b)
  obtain ⟨pk, r, hsound, hm, he⟩ := plain vs h2
  have hcall := hsound noO W args r hm (by simpa using h1) (fun j hj => by
    have h4 := h3 j hj
    have : args.getD j Go.undef = args.toList.getD j Go.undef := by
      have hj' : j < args.size := by rw [← Array.length_toList, h1]; exact hj
      simp [Array.getD, List.getD, hj']
    rwa [this]) (fun b h => h.elim)
  unfold CallR at hcall
  rw [hf.enters] at hcall
  have hlen : ∀ {ts : List TypeId} {vs : List Value} {ds : List (DataW H)} {ps : List MemPlace}, DataW.TrodAll enc P W 0 (fun _ => true) true ts vs ds ps → ds.length = ts.length := by
    intro ts
    induction ts with
    | nil => intro vs ds ps h; obtain ⟨_, rfl, _⟩ := trodAll_nil h; rfl
    | cons t ts ih => intro vs ds ps h; obtain ⟨_, _, _, _, _, _, _, rfl, _, _, h2⟩ := trodAll_cons h; simp [ih h2]
  refine hcall.mono fun e W' h => ?_
  cases e with
  | returned cv =>
    obtain ⟨hg, hrep⟩ := h
    rw [he] at hrep
    obtain rfl : cv = .bool true := by
      cases hrep
      · rfl
      · rename_i hf _; cases hf
    have hb : Below W.heap.size W W' := ⟨hg.os, hg.tape, hg.output, hg.size, fun k hk => hg.block k hk (by simp)⟩
    have hfn := hs ds (hlen hA)
    refine ⟨_, rfl, post_below (pa := p) (pv := []) hW' ?_ ?_ ?_ rfl hb ?_⟩
    · intro b sp hd
      rw [List.append_nil, hfn, hres]
      exact trodAll_cons_mk (shut_bool htb _) trodAll_mk0
    · intro sp hsp
      rw [List.append_nil, hfn]
      exact stays_all hl hr hb hA (fun x hx => hlt x (by simp [hx])) (fun x hx => hsp x (by simp [hx]))
    · intro sp hsp
      rw [List.append_nil, hfn, hv]
      rfl
    · exact ok_one hres rfl (okWide_bool_mk htb _)
  | _ => exact h.elim
end
end
end Go.Proofs.YtgjncgiekniniaaGreatDoor.A
end
section
namespace Go.Proofs.YtgjncgiekniniaaGreatDoor.A
open Go
theorem own : ownKnob Tryz.prog.godebug = none := by kernel_rfl
theorem laidOut : laidOutB Tryz.prog = true := by kernel_rfl
theorem rowed : mapsRowed Tryz.prog = true := by kernel_rfl
theorem noStops : (Tryz.prog.stops == []) = true := by kernel_rfl
theorem noKnobs : (Tryz.prog.stopKnobs == []) = true := by kernel_rfl
theorem heard : Tryz.prog.stopsHeard = true := by kernel_rfl
theorem enterable : Tryz.prog.mayEnter = true := by kernel_rfl
theorem looksOff : false = Tryz.prog.looks [] := by kernel_rfl
theorem main : Tryz.pinned.checked.prog.mainIs = some (true, ("d4ffbc68b08c28ac251f33799dbb1d7e972ab3df77886f5ed4ce34a153cf9881" : String).toList) := by kernel_rfl
noncomputable def relay (l : List Int) : Obj → Obj
  | .cells _ t fz => .cells (l.map fun n => Value.int .u8 n).toArray t fz
  | o => o
noncomputable def accept : List Int := [128, 191, 160, 191, 128, 159, 144, 191, 128, 143, 0, 0, 0, 0, 0, 0, 0, 0, 0, 0, 0, 0, 0, 0, 0, 0, 0, 0, 0, 0, 0, 0]
noncomputable def laidWorld (os : Os) : World :=
  let w := World.holding Tryz.prog os ⟨#[], #[], []⟩
  { w with heap := (w.heap.modify 3 (relay (Go.Pinned.utf8FirstZ.map Int.ofNat))).modify 4 (relay accept) }
end Go.Proofs.YtgjncgiekniniaaGreatDoor.A
end
section
set_option linter.unusedVariables false
namespace Go.Proofs.YtgjncgiekniniaaGreatDoor.A
open Go
def Runs {σ R : Type} (F : (σ → Option R) → σ → Option R) (x : σ) (r : R) : Prop :=
  (∃ n, iterF F n x = some r) ∧ ∀ n, iterF F n x = none ∨ iterF F n x = some r
theorem Runs.done {σ R : Type} {F : (σ → Option R) → σ → Option R} {x : σ} {r : R} (h : ∀ rec, F rec x = some r) : Runs F x r := by
  refine ⟨⟨1, h _⟩, fun n => ?_⟩
  cases n with
  | zero => exact .inl rfl
  | succ n => exact .inr (h _)
theorem Runs.step {σ R : Type} {F : (σ → Option R) → σ → Option R} {x y : σ} {r : R} (h : ∀ rec, F rec x = rec y) (hy : Runs F y r) : Runs F x r := by
  obtain ⟨⟨m, hm⟩, ha⟩ := hy
  refine ⟨⟨m + 1, by rw [← hm]; exact h _⟩, fun n => ?_⟩
  cases n with
  | zero => exact .inl rfl
  | succ n => have := ha n; rw [← h (iterF F n)] at this; exact this
theorem Runs.lfp {σ R : Type} {F : (σ → Option R) → σ → Option R} {x : σ} {r : R} (h : Runs F x r) : A.lfp F x = some r := by
  obtain ⟨⟨m, hm⟩, ha⟩ := h
  unfold A.lfp
  have hex : ∃ n, (iterF F n x).isSome := ⟨m, by rw [hm]; rfl⟩
  rw [dif_pos hex]
  rcases ha (Classical.choose hex) with h0 | h0
  · have := Classical.choose_spec hex
    rw [h0] at this; simp at this
  · exact h0
theorem wr_i64 {n : Int} (h1 : -9223372036854775808 ≤ n) (h2 : n < 9223372036854775808) : wr .i64 n = n := by
  simp only [wr, IntKind.wrap, IntKind.signed, IntKind.bits]
  simp; omega
theorem wr_u64 {n : Int} (h1 : 0 ≤ n) (h2 : n < 18446744073709551616) : wr .u64 n = n := by
  simp only [wr, IntKind.wrap, IntKind.signed, IntKind.bits]
  simp; omega
theorem wr_u64_mod (n : Int) : wr .u64 n = n % 18446744073709551616 := by
  simp [wr, IntKind.wrap, IntKind.signed, IntKind.bits]
theorem wr_u8 {n : Int} (h1 : 0 ≤ n) (h2 : n < 256) : wr .u8 n = n := by
  simp only [wr, IntKind.wrap, IntKind.signed, IntKind.bits]
  simp; omega
theorem tdiv_ediv {a b : Int} (h : 0 ≤ a) : Int.tdiv a b = a / b := Int.tdiv_eq_ediv_of_nonneg h
theorem tmod_emod {a b : Int} (h : 0 ≤ a) : Int.tmod a b = a % b := Int.tmod_eq_emod_of_nonneg h
end Go.Proofs.YtgjncgiekniniaaGreatDoor.A
end
section
set_option linter.unusedVariables false
set_option linter.unusedSimpArgs false
namespace Go.Proofs.YtgjncgiekniniaaGreatDoor.A
open Go
def toB (B n : Nat) : List Int := if h : 2 ≤ B ∧ 0 < n then ((n % B : Nat) : Int) :: toB B (n / B) else []
termination_by n
decreasing_by exact Nat.div_lt_self h.2 h.1
def valB (B : Nat) : List Int → Int
  | [] => 0
  | x :: l => x + B * valB B l
theorem toB_zero (B : Nat) : toB B 0 = [] := by unfold toB; rw [dif_neg]; omega
theorem toB_pos {B n : Nat} (hB : 2 ≤ B) (hn : 0 < n) : toB B n = ((n % B : Nat) : Int) :: toB B (n / B) := by
  rw [toB]; rw [dif_pos ⟨hB, hn⟩]
def inB (B : Nat) (l : List Int) : Prop := ∀ x ∈ l, 0 ≤ x ∧ x < B
theorem inB_cons {B : Nat} {x : Int} {l : List Int} : inB B (x :: l) ↔ (0 ≤ x ∧ x < B) ∧ inB B l := by simp [inB]
theorem inB_nil (B : Nat) : inB B [] := by simp [inB]
theorem inB_append {B : Nat} {l l' : List Int} : inB B (l ++ l') ↔ inB B l ∧ inB B l' := by
  simp only [inB, List.mem_append]
  exact ⟨fun h => ⟨fun x hx => h x (.inl hx), fun x hx => h x (.inr hx)⟩, fun h x hx => hx.elim (h.1 x) (h.2 x)⟩
theorem toB_in {B : Nat} (hB : 2 ≤ B) (n : Nat) : inB B (toB B n) := by
  induction n using Nat.strongRecOn with
  | _ n ih =>
    rcases Nat.eq_zero_or_pos n with rfl | hn
    · rw [toB_zero]; exact inB_nil B
    · rw [toB_pos hB hn, inB_cons]
      refine ⟨⟨by omega, ?_⟩, ih _ (Nat.div_lt_self hn hB)⟩
      exact_mod_cast Nat.mod_lt n (by omega)
theorem valB_toB {B : Nat} (hB : 2 ≤ B) (n : Nat) : valB B (toB B n) = n := by
  induction n using Nat.strongRecOn with
  | _ n ih =>
    rcases Nat.eq_zero_or_pos n with rfl | hn
    · rw [toB_zero]; rfl
    · rw [toB_pos hB hn, valB, ih _ (Nat.div_lt_self hn hB)]
      exact_mod_cast Nat.mod_add_div n B
theorem valB_nonneg {B : Nat} : ∀ {l : List Int}, inB B l → 0 ≤ valB B l
  | [], _ => Int.le_refl 0
  | x :: l, h => by
    rw [inB_cons] at h
    have := valB_nonneg h.2
    have := Int.mul_nonneg (Int.natCast_nonneg B) this
    unfold valB; omega
theorem valB_lt {B : Nat} (hB : 2 ≤ B) : ∀ {l : List Int}, inB B l → valB B l < (B ^ l.length : Nat)
  | [], _ => by simp [valB]
  | x :: l, h => by
    rw [inB_cons] at h
    have h1 := valB_lt hB h.2
    have h2 : (B : Int) * (valB B l + 1) ≤ B * (B ^ l.length : Nat) := Int.mul_le_mul_of_nonneg_left (by omega) (by omega)
    have h3 : (B : Int) * (valB B l + 1) = B * valB B l + B := by rw [Int.mul_add, Int.mul_one]
    have h4 : ((B ^ (x :: l).length : Nat) : Int) = B * (B ^ l.length : Nat) := by
      rw [List.length_cons, Nat.pow_succ, Nat.mul_comm]; exact_mod_cast rfl
    rw [h4]; unfold valB; omega
theorem valB_append (B : Nat) : ∀ (l l' : List Int), valB B (l ++ l') = valB B l + (B ^ l.length : Nat) * valB B l'
  | [], l' => by simp [valB]
  | x :: l, l' => by
    rw [List.cons_append, valB, valB, valB_append B l l', List.length_cons, Nat.pow_succ, Nat.mul_comm (B ^ l.length) B, Int.natCast_mul, Int.mul_add, Int.mul_assoc, Int.add_assoc]
theorem toB_of {B : Nat} (hB : 2 ≤ B) : ∀ {l : List Int}, inB B l → (∀ h : l ≠ [], l.getLast h ≠ 0) → l = toB B (valB B l).toNat
  | [], _, _ => by simp [valB, toB_zero]
  | x :: l, h, hl => by
    rw [inB_cons] at h
    have hn := valB_nonneg h.2
    have ih := toB_of hB h.2 fun hne => by have := hl (by simp); rwa [List.getLast_cons hne] at this
    have hpos : 0 < (valB B (x :: l)).toNat := by
      have hm := Int.mul_nonneg (Int.natCast_nonneg B) hn
      unfold valB
      by_cases hx : x = 0
      · have hne : l ≠ [] := fun e => by subst e; exact hl (by simp) (by simpa using hx)
        have : 0 < valB B l := by
          rcases Int.lt_or_eq_of_le hn with h0 | h0
          · exact h0
          · rw [← h0] at ih; simp [toB_zero] at ih; exact absurd ih hne
        have := Int.mul_pos (show (0 : Int) < B by omega) this
        omega
      · omega
    have e1 : (valB B (x :: l)).toNat = x.toNat + B * (valB B l).toNat := by
      have hv : valB B (x :: l) = x + B * valB B l := rfl
      rw [hv]
      have hm := Int.mul_nonneg (Int.natCast_nonneg B) hn
      have : ((B * (valB B l).toNat : Nat) : Int) = B * valB B l := by rw [Int.natCast_mul, Int.toNat_of_nonneg hn]
      omega
    have hx : x.toNat < B := by omega
    rw [toB_pos hB hpos, e1, Nat.add_mul_mod_self_left, Nat.mod_eq_of_lt hx, Nat.add_mul_div_left _ _ (by omega), Nat.div_eq_of_lt hx, Nat.zero_add, ← ih, Int.toNat_of_nonneg h.1.1]
theorem toB_last {B : Nat} (hB : 2 ≤ B) (n : Nat) : ∀ h : toB B n ≠ [], (toB B n).getLast h ≠ 0 := by
  induction n using Nat.strongRecOn with
  | _ n ih =>
    intro h
    rcases Nat.eq_zero_or_pos n with rfl | hn
    · exact absurd (toB_zero B) h
    · have e := toB_pos hB hn
      simp only [e]
      by_cases hq : toB B (n / B) = []
      · simp only [hq, List.getLast_singleton]
        have h0 : n / B = 0 := by
          rcases Nat.eq_zero_or_pos (n / B) with h0 | h0
          · exact h0
          · rw [toB_pos hB h0] at hq; simp at hq
        have : n < B := by
          rcases Nat.lt_or_ge n B with h1 | h1
          · exact h1
          · have := Nat.div_pos h1 (by omega); omega
        rw [Nat.mod_eq_of_lt this]; omega
      · rw [List.getLast_cons hq]
        exact ih _ (Nat.div_lt_self hn hB) hq
theorem toB_nil {B n : Nat} (hB : 2 ≤ B) : toB B n = [] ↔ n = 0 := by
  constructor
  · intro h
    rcases Nat.eq_zero_or_pos n with h0 | h0
    · exact h0
    · rw [toB_pos hB h0] at h; simp at h
  · rintro rfl; exact toB_zero B
theorem toB_len_lt {B n : Nat} (hB : 2 ≤ B) : n < B ^ (toB B n).length := by
  have := valB_lt hB (toB_in hB n)
  rw [valB_toB hB] at this
  exact_mod_cast this
theorem toB_len_le {B : Nat} (hB : 2 ≤ B) : ∀ {k n : Nat}, n < B ^ k → (toB B n).length ≤ k
  | 0, n, h => by have : n = 0 := by simpa using h
                  subst this; simp [toB_zero]
  | k + 1, n, h => by
    rcases Nat.eq_zero_or_pos n with rfl | hn
    · simp [toB_zero]
    · rw [toB_pos hB hn, List.length_cons]
      have : n / B < B ^ k := Nat.div_lt_of_lt_mul (by rw [Nat.pow_succ, Nat.mul_comm] at h; exact h)
      have := toB_len_le hB this
      omega
theorem toB_len_ge {B n : Nat} (hB : 2 ≤ B) (hn : 0 < n) : B ^ ((toB B n).length - 1) ≤ n := by
  rcases Nat.lt_or_ge n (B ^ ((toB B n).length - 1)) with h | h
  · have h1 := toB_len_le hB h
    have h2 : toB B n ≠ [] := fun e => by rw [toB_nil hB] at e; omega
    have := List.length_pos_iff.2 h2
    omega
  · exact h
end Go.Proofs.YtgjncgiekniniaaGreatDoor.A
end
section
set_option linter.unusedVariables false
set_option linter.unusedSimpArgs false
namespace Go.Proofs.YtgjncgiekniniaaGreatDoor.A
open Go
theorem bif_t {α : Type} {p : Prop} [Decidable p] {a b : α} (h : p) : (bif decide p then a else b) = a := by simp [h]
theorem bif_f {α : Type} {p : Prop} [Decidable p] {a b : α} (h : ¬ p) : (bif decide p then a else b) = b := by simp [h]
abbrev short {α : Type} (l : List α) : Prop := l.length ≤ 1000000000
abbrev dg (n : Nat) : List Int := toB 10000 n
theorem b4 : 2 ≤ 10000 := by decide
theorem valB_take_succ {B : Nat} {l : List Int} {n : Nat} (h : n < l.length) : valB B (l.take (n + 1)) = valB B (l.take n) + (B ^ n : Nat) * l[n] := by
  rw [List.take_succ_eq_append_getElem h, valB_append, List.length_take, Nat.min_eq_left (by omega)]
  simp [valB]
theorem getD_eq {l : List Int} {n : Nat} (h : n < l.length) : l.getD n 0 = l[n] := by simp [List.getD, h]
theorem ref01_Trim_gen {B : Nat} (hB : 2 ≤ B) {l : List Int} (hl : inB B l) (hs : short l) : z12.F l = some (toB B (valB B l).toNat) := by
  have key : ∀ n : Nat, n ≤ l.length → ∃ m : Nat, m ≤ n ∧ Runs (fun rec x => z12.l0b6P l rec some x) (n : Int) (m : Int) ∧ valB B (l.take m) = valB B (l.take n) ∧ (m = 0 ∨ l.getD (m - 1) 0 ≠ 0) := by
    intro n
    induction n with
    | zero => exact fun _ => ⟨0, Nat.le_refl 0, .done fun rec => by simp [z12.l0b6P], rfl, .inl rfl⟩
    | succ n ih =>
      intro hn
      have hs' : l.length ≤ 1000000000 := hs
      have e : wr .i64 (((n + 1 : Nat) : Int) - 1) = (n : Int) := by rw [wr_i64] <;> omega
      have e0 : ((n + 1 : Nat) : Int) > 0 := by omega
      have e1 : (0 : Int) ≤ (n : Int) ∧ (n : Int) < (l.length : Int) := by omega
      by_cases hz : l.getD n 0 = 0
      · obtain ⟨m, h1, h2, h3, h4⟩ := ih (by omega)
        refine ⟨m, by omega, .step (fun rec => ?_) h2, ?_, h4⟩
        · unfold z12.l0b6P
          rw [bif_t e0, e, if_pos e1, Int.toNat_natCast, bif_t hz]
        · rw [h3, valB_take_succ (show n < l.length by omega), ← getD_eq, hz]; simp
      · refine ⟨n + 1, Nat.le_refl _, .done fun rec => ?_, rfl, .inr (by simpa using hz)⟩
        unfold z12.l0b6P
        rw [bif_t e0, e, if_pos e1, Int.toNat_natCast, bif_f hz]
  obtain ⟨m, h1, h2, h3, h4⟩ := key l.length (Nat.le_refl _)
  unfold z12.F z12.l0b6
  rw [h2.lfp]
  simp only [Option.bind_some]
  rw [if_pos (by omega), Int.toNat_natCast]
  rw [List.take_length] at h3
  rw [← h3]
  congr 1
  apply toB_of hB (fun x hx => hl x (List.mem_of_mem_take hx))
  intro hne
  rcases h4 with rfl | h4
  · simp at hne
  · rw [List.getLast_eq_getElem]
    have hm : 0 < m := by
      rcases Nat.eq_zero_or_pos m with h0 | h0
      · subst h0; simp at hne
      · exact h0
    rw [getD_eq (by omega)] at h4
    simp only [List.length_take, List.getElem_take]
    have : min m l.length - 1 = m - 1 := by omega
    simp only [this]
    exact h4
theorem ref01_Trim {l : List Int} (hl : inB 10000 l) (hs : short l) : z12.F l = some (dg (valB 10000 l).toNat) := ref01_Trim_gen b4 hl hs
theorem ref01_at {l : List Int} {i : Nat} : z11.F l (i : Int) = some (l.getD i 0) := by
  unfold z11.F
  by_cases h : (i : Int) ≥ (l.length : Int)
  · rw [bif_t h]
    have : l.getD i 0 = 0 := by simp [List.getD, List.getElem?_eq_none (show l.length ≤ i by omega)]
    rw [this]
  · rw [bif_f h, if_pos (by omega), Int.toNat_natCast]
theorem ref01_Small {n : Nat} (hn : n < 9223372036854775808) : z9.F (n : Int) = some (dg n) := by
  have key : ∀ (n : Nat), n < 9223372036854775808 → ∀ s : List Int, short s → (s.length + (dg n).length ≤ 1000000000) → Runs (fun rec x => z9.l0P rec some x) ((n : Int), s) ((0 : Int), s ++ dg n) := by
    intro n
    induction n using Nat.strongRecOn with
    | _ n ih =>
      intro hn s hs hl
      rcases Nat.eq_zero_or_pos n with rfl | h0
      · refine .done fun rec => ?_
        simp [z9.l0P, toB_zero]
      · have e : dg n = ((n % 10000 : Nat) : Int) :: dg (n / 10000) := toB_pos b4 h0
        have hd : n / 10000 < n := Nat.div_lt_self h0 (by decide)
        rw [e] at hl ⊢
        have h2 := ih (n / 10000) hd (by omega) (s ++ [((n % 10000 : Nat) : Int)]) (by simp at *; omega) (by simp at *; omega)
        rw [List.append_assoc, List.singleton_append] at h2
        refine .step (fun rec => ?_) h2
        unfold z9.l0P
        simp only
        have e1 : Int.tmod (n : Int) 10000 = ((n % 10000 : Nat) : Int) := by rw [tmod_emod (by omega)]; rfl
        have e2 : wr .i64 (Int.tdiv (n : Int) 10000) = ((n / 10000 : Nat) : Int) := by rw [tdiv_ediv (by omega), wr_i64 (by omega) (by omega)]; rfl
        rw [bif_t (by omega), if_pos (by simp at *; omega), e1, e2]
  unfold z9.F z9.l0
  have hl : (dg n).length ≤ 5 := toB_len_le b4 (by omega)
  rw [(key n hn [] (by simp) (by simp; omega)).lfp]
  simp
end Go.Proofs.YtgjncgiekniniaaGreatDoor.A
end
section
set_option linter.unusedVariables false
set_option linter.unusedSimpArgs false
namespace Go.Proofs.YtgjncgiekniniaaGreatDoor.A
open Go
def ch (d : Int) : UInt8 := UInt8.ofNat (48 + d.toNat)
def txt (n : Nat) : List UInt8 := if n = 0 then [48] else (toB 10 n).reverse.map ch
theorem b10 : 2 ≤ 10 := by decide
theorem ch_toNat {d : Int} (h0 : 0 ≤ d) (h : d < 10) : (ch d).toNat = 48 + d.toNat := by
  unfold ch; rw [UInt8.toNat_ofNat']; omega
def dig4 (d : Int) : List Int := [d % 10, d / 10 % 10, d / 100 % 10, d / 1000 % 10]
theorem dig4_in {d : Int} (h0 : 0 ≤ d) : inB 10 (dig4 d) := by
  intro x hx; simp [dig4] at hx; rcases hx with rfl | rfl | rfl | rfl <;> omega
theorem dig4_val {d : Int} (h0 : 0 ≤ d) (h : d < 10000) : valB 10 (dig4 d) = d := by simp [dig4, valB]; omega
theorem flat_in : ∀ {l : List Int}, inB 10000 l → inB 10 (l.flatMap dig4)
  | [], _ => inB_nil 10
  | x :: l, h => by rw [inB_cons] at h; rw [List.flatMap_cons, inB_append]; exact ⟨dig4_in h.1.1, flat_in h.2⟩
theorem flat_val : ∀ {l : List Int}, inB 10000 l → valB 10 (l.flatMap dig4) = valB 10000 l
  | [], _ => rfl
  | x :: l, h => by
    rw [inB_cons] at h
    rw [List.flatMap_cons, valB_append, dig4_val h.1.1 h.1.2, flat_val h.2]
    simp [dig4, valB]
theorem flat_len : ∀ (l : List Int), (l.flatMap dig4).length = 4 * l.length
  | [] => rfl
  | x :: l => by rw [List.flatMap_cons, List.length_append, flat_len l]; simp [dig4]; omega
theorem print_l2 (s : List UInt8) (hs : short s) (d : Int) (h0 : 0 ≤ d) (hd : d < 10000) : ∃ d', z6.l2 (s, d, (0 : Int)) = some (((dig4 d).reverse.map ch) ++ s, d', 4) := by
  have hs' : s.length ≤ 1000000000 := hs
  have one : ∀ (s : List UInt8) (d : Int) (k : Nat), s.length ≤ 1000000004 → 0 ≤ d → d < 10000 → k < 4 → ∀ rec, z6.l2P rec some (s, d, (k : Int)) = rec (ch (d % 10) :: s, d / 10, ((k + 1 : Nat) : Int)) := by
    intro s d k hs h0 hd hk rec
    unfold z6.l2P
    simp only
    rw [bif_t (by omega), if_pos (by simp; omega), tmod_emod h0, tdiv_ediv h0, wr_i64 (n := 48 + d % 10) (by omega) (by omega), wr_u8 (by omega) (by omega), wr_i64 (n := d / 10) (by omega) (by omega), wr_i64 (by omega) (by omega)]
    have : (48 + d % 10).toNat = 48 + (d % 10).toNat := by omega
    simp [ch, this]
  refine ⟨d / 10 / 10 / 10 / 10, ?_⟩
  unfold z6.l2
  refine Runs.lfp (.step (one s d 0 (by omega) h0 hd (by decide)) (.step (one _ (d / 10) 1 (by simp; omega) (by omega) (by omega) (by decide)) (.step (one _ (d / 10 / 10) 2 (by simp; omega) (by omega) (by omega) (by decide)) (.step (one _ (d / 10 / 10 / 10) 3 (by simp; omega) (by omega) (by omega) (by decide)) (.done fun rec => ?_)))))
  unfold z6.l2P
  simp only
  rw [bif_f (by omega)]
  have e1 : d / 10 / 10 = d / 100 := by omega
  have e2 : d / 10 / 10 / 10 = d / 1000 := by omega
  simp [dig4, e1, show d / 100 / 10 = d / 1000 by omega]
theorem print_l0 {l : List Int} (hl : inB 10000 l) (hs : 4 * l.length ≤ 1000000000) : z6.l0 l ([], (0 : Int)) = some ((l.flatMap dig4).reverse.map ch, (l.length : Int)) := by
  have key : ∀ (k : Nat), k ≤ l.length → Runs (fun rec x => z6.l0P l rec some x) (((l.take (l.length - k)).flatMap dig4).reverse.map ch, ((l.length - k : Nat) : Int)) ((l.flatMap dig4).reverse.map ch, (l.length : Int)) := by
    intro k
    induction k with
    | zero =>
      intro _
      refine .done fun rec => ?_
      unfold z6.l0P
      simp
    | succ k ih =>
      intro hk
      have hi : l.length - (k + 1) < l.length := by omega
      have hm := hl l[l.length - (k + 1)] (List.getElem_mem hi)
      obtain ⟨d', h2⟩ := print_l2 (((l.take (l.length - (k + 1))).flatMap dig4).reverse.map ch) (by
        show List.length _ ≤ _; rw [List.length_map, List.length_reverse, flat_len, List.length_take]; omega) _ hm.1 hm.2
      refine .step (fun rec => ?_) (ih (by omega))
      unfold z6.l0P
      simp only
      rw [bif_t (by omega), if_pos (by omega), Int.toNat_natCast, getD_eq hi, h2]
      simp only [Option.bind_some]
      rw [wr_i64 (by omega) (by omega)]
      have e : l.take (l.length - k) = l.take (l.length - (k + 1)) ++ [l[l.length - (k + 1)]] := by
        rw [← List.take_succ_eq_append_getElem hi]; congr 1; omega
      have e2 : ((l.length - (k + 1) : Nat) : Int) + 1 = ((l.length - k : Nat) : Int) := by omega
      rw [e, e2, List.flatMap_append]
      simp only [List.flatMap_cons, List.flatMap_nil, List.append_nil, List.reverse_append, List.map_append]
  have := key l.length (Nat.le_refl _)
  simp only [Nat.sub_self, List.take_zero, List.flatMap_nil, List.reverse_nil, List.map_nil] at this
  exact this.lfp
theorem ch_48 {d : Int} (h0 : 0 ≤ d) (h : d < 10) : ((ch d).toNat : Int) = 48 ↔ d = 0 := by rw [ch_toNat h0 h]; omega
theorem ref01_Print {n : Nat} (hs : 4 * (dg n).length ≤ 1000000000) : z6.F (dg n) = some (txt n) := by
  unfold z6.F txt
  by_cases hn : n = 0
  · subst hn; simp [dg, toB_zero]
  · have hne : dg n ≠ [] := fun e => hn ((toB_nil b4).1 e)
    have hlen := List.length_pos_iff.2 hne
    rw [bif_f (by omega), if_neg hn, print_l0 (toB_in b4 n) hs]
    simp only [Option.bind_some]
    generalize hfl : (dg n).flatMap dig4 = fl
    have hin : inB 10 fl := by rw [← hfl]; exact flat_in (toB_in b4 n)
    have hv : valB 10 fl = n := by rw [← hfl, flat_val (toB_in b4 n), valB_toB b4]
    have hl : fl.length ≤ 1000000000 := by rw [← hfl, flat_len]; exact hs
    have key : ∀ k : Nat, k ≤ fl.length → valB 10 (fl.take k) = n → ∃ m : Nat, m ≤ k ∧ Runs (fun rec x => z6.l4P (fl.reverse.map ch) rec some x) ((fl.length - k : Nat) : Int) ((fl.length - m : Nat) : Int) ∧ valB 10 (fl.take m) = n ∧ (m = 0 ∨ fl.getD (m - 1) 0 ≠ 0) := by
      intro k
      induction k with
      | zero => intro _ h; simp [valB] at h; omega
      | succ k ih =>
        intro hk h
        have hi : fl.length - (k + 1) < (fl.reverse.map ch).length := by simp; omega
        have hk' : k < fl.length := by omega
        have hm := hin fl[k] (List.getElem_mem hk')
        have eg : (fl.reverse.map ch).getD (fl.length - (k + 1)) 0 = ch fl[k] := by
          have e0 : fl.length - 1 - (fl.length - (k + 1)) = k := by omega
          simp only [List.getD, List.getElem?_eq_getElem hi, Option.getD_some, List.getElem_map, List.getElem_reverse, e0]
        by_cases hz : fl[k] = 0
        · obtain ⟨m, h1, h2, h3, h4⟩ := ih (by omega) (by rw [valB_take_succ hk', hz] at h; simpa using h)
          refine ⟨m, by omega, .step (fun rec => ?_) h2, h3, h4⟩
          unfold z6.l4P
          rw [if_pos (by simp; omega), Int.toNat_natCast, eg, bif_t ((ch_48 hm.1 hm.2).2 hz), wr_i64 (by omega) (by omega)]
          congr 1; omega
        · refine ⟨k + 1, Nat.le_refl _, .done fun rec => ?_, h, .inr (by rw [Nat.add_sub_cancel, getD_eq hk']; exact hz)⟩
          unfold z6.l4P
          rw [if_pos (by simp; omega), Int.toNat_natCast, eg, bif_f (fun e => hz ((ch_48 hm.1 hm.2).1 e))]
    obtain ⟨m, h1, h2, h3, h4⟩ := key fl.length (Nat.le_refl _) (by rw [List.take_length]; exact hv)
    rw [Nat.sub_self] at h2
    unfold z6.l4
    rw [show (0 : Int) = ((0 : Nat) : Int) from rfl, h2.lfp]
    simp only [Option.bind_some]
    rw [if_pos (by rw [List.length_map, List.length_reverse]; omega), Int.toNat_natCast]
    have hm : m ≠ 0 := by rintro rfl; simp [valB] at h3; omega
    have e : fl.take m = toB 10 n := by
      have := toB_of b10 (l := fl.take m) (fun x hx => hin x (List.mem_of_mem_take hx)) fun hne => by
        rcases h4 with h4 | h4
        · exact absurd h4 hm
        · rw [List.getLast_eq_getElem]
          rw [getD_eq (by omega)] at h4
          simp only [List.length_take, List.getElem_take]
          have : min m fl.length - 1 = m - 1 := by omega
          simp only [this]; exact h4
      rwa [h3, Int.toNat_natCast] at this
    rw [← e, ← List.map_drop, List.reverse_take]
end Go.Proofs.YtgjncgiekniniaaGreatDoor.A
end
section
set_option linter.unusedVariables false
set_option linter.unusedSimpArgs false
namespace Go.Proofs.YtgjncgiekniniaaGreatDoor.A
open Go
theorem valB_set {B : Nat} : ∀ {l : List Int} {j : Nat} {x : Int}, j < l.length → valB B (l.set j x) = valB B l + (x - l.getD j 0) * (B ^ j : Nat)
  | y :: l, 0, x, _ => by simp [valB]; omega
  | y :: l, j + 1, x, h => by
    have := valB_set (B := B) (l := l) (j := j) (x := x) (by simpa using h)
    rw [List.set_cons_succ, valB, valB, this, List.getD_cons_succ, Nat.pow_succ, Nat.mul_comm (B ^ j) B, Int.natCast_mul, Int.mul_add, Int.add_assoc]
    congr 2
    rw [Int.mul_left_comm]
theorem inB_set {B : Nat} {l : List Int} {j : Nat} {x : Int} (h : inB B l) (hx : 0 ≤ x ∧ x < B) : inB B (l.set j x) := fun y hy => by
  rcases List.mem_or_eq_of_mem_set hy with h1 | rfl
  · exact h y h1
  · exact hx
theorem valB_drop {B : Nat} : ∀ (l : List Int) (k : Nat), valB B (l.drop k) = l.getD k 0 + B * valB B (l.drop (k + 1))
  | [], k => by simp [valB]
  | x :: l, 0 => by simp [valB]
  | x :: l, k + 1 => by rw [List.drop_succ_cons, List.drop_succ_cons, List.getD_cons_succ]; exact valB_drop l k
theorem getD_in {B : Nat} (hB : 0 < B) {l : List Int} (h : inB B l) (k : Nat) : 0 ≤ l.getD k 0 ∧ l.getD k 0 < B := by
  by_cases hk : k < l.length
  · rw [getD_eq hk]; exact h _ (List.getElem_mem hk)
  · simp [List.getD, List.getElem?_eq_none (show l.length ≤ k by omega)]; omega
theorem inB_drop {B : Nat} {l : List Int} (h : inB B l) (k : Nat) : inB B (l.drop k) := fun x hx => h x (List.mem_of_mem_drop hx)
theorem inB_take {B : Nat} {l : List Int} (h : inB B l) (k : Nat) : inB B (l.take k) := fun x hx => h x (List.mem_of_mem_take hx)
theorem mul_round {a b s : List Int} {i k : Nat} {c : Int} (ha : inB 10000 a) (hb : inB 10000 b) (hs : inB 10000 s) (hi : i < a.length) (hk : i + k < s.length) (hsl : s.length ≤ 4000000000) (hc : 0 ≤ c ∧ c < 10000) (hgo : k < b.length ∨ 0 < c)
    (rec : Int × Int × List Int → Option (Int × Int × List Int)) :
    z13.l2aaP a b (i : Int) rec some (c, (k : Int), s) =
      rec ((s.getD (i + k) 0 + a.getD i 0 * b.getD k 0 + c) / 10000, ((k + 1 : Nat) : Int), s.set (i + k) ((s.getD (i + k) 0 + a.getD i 0 * b.getD k 0 + c) % 10000)) := by
  have h1 := getD_in (by decide) ha i
  have h2 := getD_in (by decide) hb k
  have h3 := getD_in (by decide) hs (i + k)
  have h4 : 0 ≤ a.getD i 0 * b.getD k 0 := Int.mul_nonneg h1.1 h2.1
  have h5 : a.getD i 0 * b.getD k 0 ≤ 9999 * 9999 := Int.mul_le_mul (by omega) (by omega) h2.1 (by decide)
  have e1 : wr .i64 ((i : Int) + k) = ((i + k : Nat) : Int) := by rw [wr_i64 (by omega) (by omega)]; omega
  have e2 : wr .i64 (a.getD i 0 * b.getD k 0) = a.getD i 0 * b.getD k 0 := wr_i64 (by omega) (by omega)
  have e3 : wr .i64 (s.getD (i + k) 0 + a.getD i 0 * b.getD k 0) = s.getD (i + k) 0 + a.getD i 0 * b.getD k 0 := wr_i64 (by omega) (by omega)
  have e4 : wr .i64 (s.getD (i + k) 0 + a.getD i 0 * b.getD k 0 + c) = s.getD (i + k) 0 + a.getD i 0 * b.getD k 0 + c := wr_i64 (by omega) (by omega)
  have e5 : wr .i64 ((k : Int) + 1) = ((k + 1 : Nat) : Int) := by rw [wr_i64 (by omega) (by omega)]; omega
  unfold z13.l2aaP
  simp only [ref01_at, Option.bind_some, e1, Int.toNat_natCast, e2, e3, e4, e5]
  rw [tdiv_ediv (by omega), tmod_emod (by omega), wr_i64 (n := (_ : Int) / 10000) (by omega) (by omega)]
  have c1 : (0 : Int) ≤ ((i + k : Nat) : Int) ∧ ((i + k : Nat) : Int) < (s.length : Int) := by omega
  have c2 : (0 : Int) ≤ (i : Int) ∧ (i : Int) < (a.length : Int) := by omega
  simp only [if_pos c1, if_pos hk, if_pos c2]
  by_cases hkb : (k : Int) < (b.length : Int)
  · rw [bif_t hkb]
  · rw [bif_f hkb, bif_t (show c > 0 by omega)]
theorem mul_inner {a b : List Int} {i : Nat} {T : Int} (ha : inB 10000 a) (hb : inB 10000 b) (hi : i < a.length) (hT : T < (10000 ^ (i + 1 + b.length) : Nat)) :
    ∀ (f k : Nat) (c : Int) (s : List Int), inB 10000 s → i + 1 + b.length < s.length → s.length ≤ 4000000000 → 0 ≤ c ∧ c < 10000 → b.length + 2 ≤ k + f →
      valB 10000 s + (c + a.getD i 0 * valB 10000 (b.drop k)) * (10000 ^ (i + k) : Nat) = T →
      ∃ k' s', Runs (fun rec x => z13.l2aaP a b (i : Int) rec some x) (c, (k : Int), s) ((0 : Int), k', s') ∧ inB 10000 s' ∧ s'.length = s.length ∧ valB 10000 s' = T
  | f, k, c, s, hs, hl, hl', hc, hf, hv => by
    have hbd := valB_nonneg (inB_drop hb k)
    have h1 := getD_in (B := 10000) (by decide) ha i
    have hsv := valB_nonneg hs
    have hab := Int.mul_nonneg h1.1 hbd
    by_cases hgo : k < b.length ∨ 0 < c
    · have hk : k ≤ b.length := by
        rcases hgo with h | h
        · omega
        · rcases Nat.lt_or_ge b.length k with hlt | hge
          · exfalso
            have h2 : (10000 ^ (i + 1 + b.length) : Nat) ≤ 10000 ^ (i + k) := Nat.pow_le_pow_right (by decide) (by omega)
            have h3 : (1 : Int) * (10000 ^ (i + k) : Nat) ≤ (c + a.getD i 0 * valB 10000 (b.drop k)) * (10000 ^ (i + k) : Nat) := Int.mul_le_mul_of_nonneg_right (by omega) (Int.natCast_nonneg _)
            have h4 : ((10000 ^ (i + 1 + b.length) : Nat) : Int) ≤ (10000 ^ (i + k) : Nat) := by exact_mod_cast h2
            omega
          · exact hge
      match f, hf with
      | 0, hf => omega
      | f + 1, hf =>
        have h2 := getD_in (B := 10000) (by decide) hb k
        have h3 := getD_in (B := 10000) (by decide) hs (i + k)
        have h4 : 0 ≤ a.getD i 0 * b.getD k 0 := Int.mul_nonneg h1.1 h2.1
        have h5 : a.getD i 0 * b.getD k 0 ≤ 9999 * 9999 := Int.mul_le_mul (by omega) (by omega) h2.1 (by decide)
        obtain ⟨k', s', r1, r2, r3, r4⟩ := mul_inner ha hb hi hT f (k + 1) ((s.getD (i + k) 0 + a.getD i 0 * b.getD k 0 + c) / 10000) (s.set (i + k) ((s.getD (i + k) 0 + a.getD i 0 * b.getD k 0 + c) % 10000))
          (inB_set hs (by omega)) (by rw [List.length_set]; exact hl) (by rw [List.length_set]; exact hl') (by omega) (by omega) (by
            rw [valB_set (by omega), ← hv, valB_drop b k]
            generalize hx : s.getD (i + k) 0 + a.getD i 0 * b.getD k 0 + c = x
            have e1 : (10000 ^ (i + (k + 1)) : Nat) = 10000 * 10000 ^ (i + k) := by rw [← Nat.add_assoc, Nat.pow_succ, Nat.mul_comm]
            rw [e1, Int.natCast_mul]
            have e2 : x = 10000 * (x / 10000) + x % 10000 := (Int.mul_ediv_add_emod x 10000).symm
            generalize x / 10000 = q at *
            generalize x % 10000 = m at *
            subst e2
            generalize ((10000 ^ (i + k) : Nat) : Int) = p
            generalize valB 10000 (b.drop (k + 1)) = w
            generalize a.getD i 0 = u at *
            generalize b.getD k 0 = v at *
            generalize s.getD (i + k) 0 = z at *
            have hc' : c = 10000 * q + m - z - u * v := by omega
            subst hc'
            grind)
        refine ⟨k', s', .step (fun rec => mul_round ha hb hs hi (by omega) hl' hc hgo rec) r1, r2, by rw [r3, List.length_set], r4⟩
    · have hc0 : c = 0 := by omega
      have hkb : b.length ≤ k := by omega
      subst hc0
      refine ⟨k, s, .done fun rec => ?_, hs, rfl, ?_⟩
      · unfold z13.l2aaP
        simp only
        rw [bif_f (by omega), bif_f (by omega)]
      · rw [List.drop_eq_nil_of_le hkb] at hv
        simpa [valB] using hv
theorem mul_outer {a b : List Int} (ha : inB 10000 a) (hb : inB 10000 b) (hal : a.length + b.length ≤ 3000000000) :
    ∀ (f i : Nat) (s : List Int), i + f = a.length → inB 10000 s → s.length = a.length + b.length + 1 → valB 10000 s = valB 10000 (a.take i) * valB 10000 b →
      ∃ s', Runs (fun rec x => z13.l0P a b rec some x) ((i : Int), s) ((a.length : Int), s') ∧ inB 10000 s' ∧ s'.length = s.length ∧ valB 10000 s' = valB 10000 a * valB 10000 b
  | 0, i, s, hf, hs, hl, hv => by
    have : i = a.length := by omega
    subst this
    refine ⟨s, .done fun rec => ?_, hs, rfl, by rwa [List.take_length] at hv⟩
    unfold z13.l0P
    simp
  | f + 1, i, s, hf, hs, hl, hv => by
    have hi : i < a.length := by omega
    have hT : valB 10000 (a.take (i + 1)) * valB 10000 b < (10000 ^ (i + 1 + b.length) : Nat) := by
      have h1 := valB_lt b4 (inB_take ha (i + 1))
      have h2 := valB_lt b4 hb
      have h3 := valB_nonneg (inB_take ha (i + 1))
      have h4 := valB_nonneg hb
      rw [List.length_take, Nat.min_eq_left (by omega)] at h1
      rw [Nat.pow_add, Int.natCast_mul]
      rcases Int.lt_or_eq_of_le h4 with h0 | h0
      · exact Int.mul_lt_mul h1 (Int.le_of_lt h2) h0 (by omega)
      · rw [← h0, Int.mul_zero]; exact Int.mul_pos (by omega) (by omega)
    obtain ⟨k', s', r1, r2, r3, r4⟩ := mul_inner ha hb hi hT (b.length + 2) 0 0 s hs (by omega) (by omega) (by omega) (by omega) (by
      rw [hv, valB_take_succ hi, List.drop_zero, Int.zero_add, Nat.add_zero, getD_eq hi]; grind)
    obtain ⟨s2, q1, q2, q3, q4⟩ := mul_outer ha hb hal f (i + 1) s' (by omega) r2 (by omega) r4
    refine ⟨s2, .step (fun rec => ?_) q1, q2, by omega, q4⟩
    have e : z13.l2aa a b (i : Int) ((0 : Int), (0 : Int), s) = some ((0 : Int), k', s') := r1.lfp
    unfold z13.l0P
    simp only
    rw [bif_t (by omega), e]
    simp only [Option.bind_some]
    rw [wr_i64 (by omega) (by omega)]
    rfl
theorem valB_replicate (B : Nat) : ∀ n : Nat, valB B (List.replicate n (0 : Int)) = 0
  | 0 => rfl
  | n + 1 => by rw [List.replicate_succ, valB, valB_replicate B n]; simp
theorem inB_replicate {B : Nat} (hB : 0 < B) (n : Nat) : inB B (List.replicate n (0 : Int)) := fun x hx => by
  rw [List.mem_replicate] at hx; rw [hx.2]; omega
theorem ref01_Mul_gen {a b : List Int} (ha : inB 10000 a) (hb : inB 10000 b) (hal : a.length + b.length ≤ 900000000) : z13.F a b = some (dg (valB 10000 a * valB 10000 b).toNat) := by
  unfold z13.F z13.l0
  have e : wr .i64 (wr .i64 ((a.length : Int) + (b.length : Int)) + 1) = ((a.length + b.length + 1 : Nat) : Int) := by
    rw [wr_i64 (n := (a.length : Int) + b.length) (by omega) (by omega), wr_i64 (by omega) (by omega)]; omega
  rw [e, if_pos (by omega), Int.toNat_natCast]
  obtain ⟨s', r1, r2, r3, r4⟩ := mul_outer ha hb (by omega) a.length 0 (List.replicate (a.length + b.length + 1) 0) (by omega) (inB_replicate (by decide) _) (by simp) (by rw [valB_replicate]; simp [valB])
  rw [show ((0 : Int), List.replicate (a.length + b.length + 1) (0 : Int)) = (((0 : Nat) : Int), List.replicate (a.length + b.length + 1) (0 : Int)) from rfl, r1.lfp]
  simp only [Option.bind_some]
  rw [ref01_Trim r2 (by show List.length _ ≤ _; rw [r3]; simp; omega), r4]
  rfl
theorem ref01_Mul {m n : Nat} (hl : (dg m).length + (dg n).length ≤ 900000000) : z13.F (dg m) (dg n) = some (dg (m * n)) := by
  rw [ref01_Mul_gen (toB_in b4 m) (toB_in b4 n) hl, valB_toB b4, valB_toB b4]
  congr 2
end Go.Proofs.YtgjncgiekniniaaGreatDoor.A
end
section
set_option linter.unusedVariables false
set_option linter.unusedSimpArgs false
namespace Go.Proofs.YtgjncgiekniniaaGreatDoor.A
open Go
theorem valB_snoc (B : Nat) (l : List Int) (x : Int) : valB B (l ++ [x]) = valB B l + (B ^ l.length : Nat) * x := by
  rw [valB_append]; simp [valB]
theorem inB_snoc {B : Nat} {l : List Int} {x : Int} (h : inB B l) (hx : 0 ≤ x ∧ x < B) : inB B (l ++ [x]) := inB_append.2 ⟨h, inB_cons.2 ⟨hx, inB_nil B⟩⟩
theorem add_round {a b s : List Int} {i : Nat} {c : Int} (ha : inB 10000 a) (hb : inB 10000 b) (hsl : s.length ≤ 4000000000) (hil : i ≤ 4000000000) (hc : 0 ≤ c ∧ c < 10000) (hgo : i < a.length ∨ i < b.length ∨ 0 < c)
    (rec : Int × Int × List Int → Option (Int × Int × List Int)) :
    z91.l0b6P a b rec some (c, (i : Int), s) = rec ((a.getD i 0 + b.getD i 0 + c) / 10000, ((i + 1 : Nat) : Int), s ++ [(a.getD i 0 + b.getD i 0 + c) % 10000]) := by
  have h1 := getD_in (B := 10000) (by decide) ha i
  have h2 := getD_in (B := 10000) (by decide) hb i
  have e1 : wr .i64 (a.getD i 0 + b.getD i 0) = a.getD i 0 + b.getD i 0 := wr_i64 (by omega) (by omega)
  have e2 : wr .i64 (a.getD i 0 + b.getD i 0 + c) = a.getD i 0 + b.getD i 0 + c := wr_i64 (by omega) (by omega)
  have e3 : wr .i64 ((i : Int) + 1) = ((i + 1 : Nat) : Int) := by rw [wr_i64 (by omega) (by omega)]; omega
  unfold z91.l0b6P
  simp only [ref01_at, Option.bind_some, e1, e2, e3]
  rw [tdiv_ediv (by omega), tmod_emod (by omega), wr_i64 (n := (_ : Int) / 10000) (by omega) (by omega)]
  have c1 : ∀ x : Int, (s.length + [x].length) * 8 ≤ 140737488355328 := fun x => by simp; omega
  simp only [if_pos (c1 _)]
  by_cases h3 : (i : Int) < (a.length : Int)
  · rw [bif_t h3]
  · rw [bif_f h3]
    by_cases h4 : (i : Int) < (b.length : Int)
    · rw [bif_t h4]
    · rw [bif_f h4, bif_t (show c > 0 by omega)]
theorem add_loop {a b : List Int} (ha : inB 10000 a) (hb : inB 10000 b) (hal : a.length + b.length ≤ 900000000) :
    ∀ (f i : Nat) (c : Int) (s : List Int), a.length + b.length + 1 ≤ i + f → i ≤ a.length + b.length + 1 → s.length = i → inB 10000 s → 0 ≤ c ∧ c ≤ 1 → (i = a.length + b.length + 1 → c = 0) →
      valB 10000 s + (c + valB 10000 (a.drop i) + valB 10000 (b.drop i)) * (10000 ^ i : Nat) = valB 10000 a + valB 10000 b →
      ∃ i' s', Runs (fun rec x => z91.l0b6P a b rec some x) (c, (i : Int), s) ((0 : Int), i', s') ∧ inB 10000 s' ∧ s'.length ≤ a.length + b.length + 1 ∧ valB 10000 s' = valB 10000 a + valB 10000 b
  | f, i, c, s, hf, hi, hl, hs, hc, he, hv => by
    by_cases hgo : i < a.length ∨ i < b.length ∨ 0 < c
    · match f, hf with
      | 0, hf =>
        have : i = a.length + b.length + 1 := by omega
        have := he this
        omega
      | f + 1, hf =>
        have hi' : i < a.length + b.length + 1 := by
          rcases Nat.lt_or_ge i (a.length + b.length + 1) with h | h
          · exact h
          · have := he (by omega); omega
        have h1 := getD_in (B := 10000) (by decide) ha i
        have h2 := getD_in (B := 10000) (by decide) hb i
        obtain ⟨i', s', r1, r2, r3, r4⟩ := add_loop ha hb hal f (i + 1) ((a.getD i 0 + b.getD i 0 + c) / 10000) (s ++ [(a.getD i 0 + b.getD i 0 + c) % 10000]) (by omega) (by omega) (by simp [hl]) (inB_snoc hs (by omega)) (by omega)
          (fun e => by
            have h3 : a.getD i 0 = 0 ∨ b.getD i 0 = 0 := by
              by_cases ha' : i < a.length
              · right; simp [List.getD, List.getElem?_eq_none (show b.length ≤ i by omega)]
              · left; simp [List.getD, List.getElem?_eq_none (show a.length ≤ i by omega)]
            have h5 : a.getD i 0 = 0 := by
              by_cases ha' : i < a.length
              · have : b.length = 0 := by omega
                exfalso
                have h6 : i = a.length + b.length := by omega
                omega
              · simp [List.getD, List.getElem?_eq_none (show a.length ≤ i by omega)]
            have h6 : b.getD i 0 = 0 := by simp [List.getD, List.getElem?_eq_none (show b.length ≤ i by omega)]
            omega)
          (by
            rw [valB_snoc, ← hv, valB_drop a i, valB_drop b i, hl, Nat.pow_succ, Nat.mul_comm (10000 ^ i) 10000, Int.natCast_mul]
            generalize hx : a.getD i 0 + b.getD i 0 + c = x
            have e2 : x = 10000 * (x / 10000) + x % 10000 := (Int.mul_ediv_add_emod x 10000).symm
            generalize x / 10000 = q at *
            generalize x % 10000 = m at *
            subst e2
            generalize ((10000 ^ i : Nat) : Int) = p
            generalize valB 10000 (a.drop (i + 1)) = w
            generalize valB 10000 (b.drop (i + 1)) = w'
            generalize a.getD i 0 = u at *
            generalize b.getD i 0 = v at *
            have hc' : c = 10000 * q + m - u - v := by omega
            subst hc'
            grind)
        exact ⟨i', s', .step (fun rec => add_round ha hb (by omega) (by omega) (by omega) hgo rec) r1, r2, r3, r4⟩
    · have hc0 : c = 0 := by omega
      subst hc0
      refine ⟨i, s, .done fun rec => ?_, hs, by omega, ?_⟩
      · unfold z91.l0b6P
        simp only
        rw [bif_f (by omega), bif_f (by omega), bif_f (by omega)]
      · rw [List.drop_eq_nil_of_le (by omega), List.drop_eq_nil_of_le (by omega)] at hv
        simpa [valB] using hv
theorem ref01_Add_gen {a b : List Int} (ha : inB 10000 a) (hb : inB 10000 b) (hal : a.length + b.length ≤ 900000000) : z91.F a b = some (dg (valB 10000 a + valB 10000 b).toNat) := by
  obtain ⟨i', s', r1, r2, r3, r4⟩ := add_loop ha hb hal (a.length + b.length + 1) 0 0 [] (by omega) (by omega) rfl (inB_nil _) (by omega) (by omega) (by simp [valB])
  have e : z91.l0b6 a b ((0 : Int), (0 : Int), []) = some ((0 : Int), i', s') := r1.lfp
  unfold z91.F
  rw [e]
  simp only [Option.bind_some]
  rw [ref01_Trim r2 (by show List.length _ ≤ _; omega), r4]
  rfl
theorem ref01_Add {m n : Nat} (hl : (dg m).length + (dg n).length ≤ 900000000) : z91.F (dg m) (dg n) = some (dg (m + n)) := by
  rw [ref01_Add_gen (toB_in b4 m) (toB_in b4 n) hl, valB_toB b4, valB_toB b4]
  congr 2
end Go.Proofs.YtgjncgiekniniaaGreatDoor.A
end
section
set_option linter.unusedVariables false
set_option linter.unusedSimpArgs false
namespace Go.Proofs.YtgjncgiekniniaaGreatDoor.A
open Go
def cmpI (m n : Int) : Int := if m < n then -1 else if m = n then 0 else 1
theorem valB_take_lt {B : Nat} (hB : 2 ≤ B) {l : List Int} (h : inB B l) {k : Nat} (hk : k ≤ l.length) : valB B (l.take k) < (B ^ k : Nat) := by
  have := valB_lt hB (inB_take h k)
  rwa [List.length_take, Nat.min_eq_left hk] at this
theorem cmp_part {B : Nat} (hB : 2 ≤ B) {a b : List Int} (ha : inB B a) (hb : inB B b) {k : Nat} (hka : k < a.length) (hkb : k < b.length) :
    (a[k] < b[k] → valB B (a.take (k + 1)) < valB B (b.take (k + 1))) ∧ (a[k] = b[k] → (valB B (a.take (k + 1)) - valB B (b.take (k + 1)) = valB B (a.take k) - valB B (b.take k))) := by
  rw [valB_take_succ hka, valB_take_succ hkb]
  have h1 := valB_take_lt hB ha (k := k) (by omega)
  have h2 := valB_nonneg (inB_take hb k)
  refine ⟨fun h => ?_, fun h => by rw [h]; omega⟩
  have h3 : ((B ^ k : Nat) : Int) * (a[k] + 1) ≤ (B ^ k : Nat) * b[k] := Int.mul_le_mul_of_nonneg_left (by omega) (by omega)
  rw [Int.mul_add, Int.mul_one] at h3
  omega
theorem cmp_loop {a b : List Int} (ha : inB 10000 a) (hb : inB 10000 b) (hl : a.length = b.length) (hal : a.length ≤ 900000000) : ∀ k : Nat, k ≤ a.length →
    ∃ o : Int ⊕ Int, Runs (fun rec x => z92.l0P a b rec some x) ((k : Int) - 1) o ∧ (match o with | .inl _ => (0 : Int) | .inr q => q) = cmpI (valB 10000 (a.take k)) (valB 10000 (b.take k))
  | 0, _ => ⟨.inl (-1), .done fun rec => by unfold z92.l0P; rw [bif_f (by omega)]; rfl, by simp [cmpI, valB]⟩
  | k + 1, hk => by
    have hka : k < a.length := by omega
    have hkb : k < b.length := by omega
    have e0 : ((k + 1 : Nat) : Int) - 1 = (k : Int) := by omega
    obtain ⟨p1, p2⟩ := cmp_part b4 ha hb hka hkb
    obtain ⟨p3, _⟩ := cmp_part b4 hb ha hkb hka
    have c1 : (0 : Int) ≤ (k : Int) ∧ (k : Int) < (a.length : Int) := by omega
    have c2 : (0 : Int) ≤ (k : Int) ∧ (k : Int) < (b.length : Int) := by omega
    rw [e0]
    rcases Int.lt_trichotomy a[k] b[k] with h | h | h
    · refine ⟨.inr (-1), .done fun rec => ?_, ?_⟩
      · unfold z92.l0P
        rw [bif_t (by omega), if_pos c1, if_pos c2, Int.toNat_natCast, getD_eq hka, getD_eq hkb, bif_t h]
      · have := p1 h
        unfold cmpI; rw [if_pos this]
    · obtain ⟨o, r1, r2⟩ := cmp_loop ha hb hl hal k (by omega)
      refine ⟨o, .step (fun rec => ?_) r1, ?_⟩
      · unfold z92.l0P
        rw [bif_t (by omega), Int.toNat_natCast, getD_eq hka, getD_eq hkb]
        simp only [if_pos c1, if_pos c2]
        rw [bif_f (by omega), bif_f (by omega), wr_i64 (by omega) (by omega)]
      · rw [r2]
        have := p2 h
        unfold cmpI
        split <;> split <;> (try split) <;> (try split) <;> first | rfl | omega
    · refine ⟨.inr 1, .done fun rec => ?_, ?_⟩
      · unfold z92.l0P
        rw [bif_t (by omega), Int.toNat_natCast, getD_eq hka, getD_eq hkb]
        simp only [if_pos c1, if_pos c2]
        rw [bif_f (by omega), bif_t h]
      · have := p3 h
        unfold cmpI; rw [if_neg (by omega), if_neg (by omega)]
theorem toB_lt_of_len {B m n : Nat} (hB : 2 ≤ B) (h : (toB B m).length < (toB B n).length) : m < n := by
  have h1 := toB_len_lt (n := m) hB
  have hn : 0 < n := by
    rcases Nat.eq_zero_or_pos n with rfl | h0
    · rw [toB_zero] at h; simp at h
    · exact h0
  have h2 := toB_len_ge hB hn
  have h3 : B ^ (toB B m).length ≤ B ^ ((toB B n).length - 1) := Nat.pow_le_pow_right (by omega) (by omega)
  omega
theorem ref01_Cmp {m n : Nat} (hl : (dg m).length ≤ 900000000) : z92.F (dg m) (dg n) = some (cmpI m n) := by
  unfold z92.F
  by_cases he : (dg m).length = (dg n).length
  · have e1 : ((dg m).length : Int) = ((dg n).length : Int) := by omega
    rw [decide_eq_true e1]
    simp only [Bool.not_true, cond_false]
    obtain ⟨o, r1, r2⟩ := cmp_loop (toB_in b4 m) (toB_in b4 n) he hl (dg m).length (Nat.le_refl _)
    rw [wr_i64 (by omega) (by omega)]
    unfold z92.l0
    rw [r1.lfp]
    simp only [Option.bind_some]
    rw [List.take_length, he, List.take_length, valB_toB b4, valB_toB b4] at r2
    rw [← r2]
    cases o <;> rfl
  · have e1 : ¬ ((dg m).length : Int) = ((dg n).length : Int) := by omega
    rw [decide_eq_false e1]
    simp only [Bool.not_false, cond_true]
    rcases Nat.lt_or_gt_of_ne he with h | h
    · have := toB_lt_of_len b4 h
      rw [bif_t (by omega)]; unfold cmpI; rw [if_pos (by omega)]
    · have := toB_lt_of_len b4 h
      rw [bif_f (by omega)]; unfold cmpI; rw [if_neg (by omega), if_neg (by omega)]
theorem sub_loop {a b : List Int} (ha : inB 10000 a) (hb : inB 10000 b) (hal : a.length ≤ 900000000) :
    ∀ (f i : Nat) (c : Int) (s : List Int), i + f = a.length → s.length = i → inB 10000 s → 0 ≤ c ∧ c ≤ 1 →
      valB 10000 s - c * (10000 ^ i : Nat) = valB 10000 (a.take i) - valB 10000 (b.take i) →
      ∃ c' s', Runs (fun rec x => z93.l0P a b rec some x) (c, (i : Int), s) (c', (a.length : Int), s') ∧ inB 10000 s' ∧ s'.length = a.length ∧ (0 ≤ c' ∧ c' ≤ 1) ∧ valB 10000 s' - c' * (10000 ^ a.length : Nat) = valB 10000 a - valB 10000 (b.take a.length)
  | 0, i, c, s, hf, hl, hs, hc, hv => by
    have : i = a.length := by omega
    subst this
    refine ⟨c, s, .done fun rec => ?_, hs, hl, hc, by rwa [List.take_length] at hv⟩
    unfold z93.l0P
    simp only
    rw [bif_f (by omega)]
  | f + 1, i, c, s, hf, hl, hs, hc, hv => by
    have hi : i < a.length := by omega
    have h1 := getD_in (B := 10000) (by decide) ha i
    have h2 := getD_in (B := 10000) (by decide) hb i
    have eb : valB 10000 (b.take (i + 1)) = valB 10000 (b.take i) + (10000 ^ i : Nat) * b.getD i 0 := by
      by_cases hb' : i < b.length
      · rw [valB_take_succ hb', getD_eq hb']
      · rw [List.take_of_length_le (by omega), List.take_of_length_le (by omega)]
        simp [List.getD, List.getElem?_eq_none (show b.length ≤ i by omega)]
    have e1 : wr .i64 (a.getD i 0 - b.getD i 0) = a.getD i 0 - b.getD i 0 := wr_i64 (by omega) (by omega)
    have e2 : wr .i64 (a.getD i 0 - b.getD i 0 - c) = a.getD i 0 - b.getD i 0 - c := wr_i64 (by omega) (by omega)
    have e3 : wr .i64 ((i : Int) + 1) = ((i + 1 : Nat) : Int) := by rw [wr_i64 (by omega) (by omega)]; omega
    have e4 : wr .i64 (a.getD i 0 - b.getD i 0 - c + 10000) = a.getD i 0 - b.getD i 0 - c + 10000 := wr_i64 (by omega) (by omega)
    have c1 : ∀ x : Int, (s.length + [x].length) * 8 ≤ 140737488355328 := fun x => by simp; omega
    have c2 : (0 : Int) ≤ (i : Int) ∧ (i : Int) < (a.length : Int) := by omega
    by_cases hd : a.getD i 0 - b.getD i 0 - c < 0
    · obtain ⟨c', s', r1, r2, r3, r4, r5⟩ := sub_loop ha hb hal f (i + 1) 1 (s ++ [a.getD i 0 - b.getD i 0 - c + 10000]) (by omega) (by simp [hl]) (inB_snoc hs (by omega)) (by omega) (by
        rw [valB_snoc, valB_take_succ hi, eb, hl, Nat.pow_succ, Nat.mul_comm (10000 ^ i) 10000, Int.natCast_mul, ← getD_eq hi]
        generalize ((10000 ^ i : Nat) : Int) = p at *
        grind)
      refine ⟨c', s', .step (fun rec => ?_) r1, r2, r3, r4, r5⟩
      unfold z93.l0P
      simp only [ref01_at, Option.bind_some, Int.toNat_natCast, e1, e2, e3, e4]
      rw [bif_t (by omega), if_pos c2, bif_t hd, if_pos (c1 _)]
    · obtain ⟨c', s', r1, r2, r3, r4, r5⟩ := sub_loop ha hb hal f (i + 1) 0 (s ++ [a.getD i 0 - b.getD i 0 - c]) (by omega) (by simp [hl]) (inB_snoc hs (by omega)) (by omega) (by
        rw [valB_snoc, valB_take_succ hi, eb, hl, Nat.pow_succ, Nat.mul_comm (10000 ^ i) 10000, Int.natCast_mul, ← getD_eq hi]
        generalize ((10000 ^ i : Nat) : Int) = p at *
        grind)
      refine ⟨c', s', .step (fun rec => ?_) r1, r2, r3, r4, r5⟩
      unfold z93.l0P
      simp only [ref01_at, Option.bind_some, Int.toNat_natCast, e1, e2, e3, e4]
      rw [bif_t (by omega), if_pos c2, bif_f hd, if_pos (c1 _)]
theorem ref01_Sub {m n : Nat} (hmn : n ≤ m) (hl : (dg m).length ≤ 900000000) : z93.F (dg m) (dg n) = some (dg (m - n)) := by
  obtain ⟨c', s', r1, r2, r3, r4, r5⟩ := sub_loop (a := dg m) (b := dg n) (toB_in b4 m) (toB_in b4 n) hl (dg m).length 0 0 [] (by omega) rfl (inB_nil _) (by omega) (by simp [valB])
  have hlen : (dg n).length ≤ (dg m).length := by
    rcases Nat.lt_or_ge (dg m).length (dg n).length with h | h
    · have := toB_lt_of_len b4 h; omega
    · exact h
  rw [List.take_of_length_le hlen, valB_toB b4, valB_toB b4] at r5
  have h1 := valB_lt b4 r2
  rw [r3] at h1
  have hc : c' = 0 := by
    rcases (show c' = 0 ∨ c' = 1 by omega) with h | h
    · exact h
    · subst h; omega
  subst hc
  have e : z93.l0 (dg m) (dg n) ((0 : Int), (0 : Int), []) = some ((0 : Int), ((dg m).length : Int), s') := r1.lfp
  unfold z93.F
  rw [e]
  simp only [Option.bind_some]
  rw [ref01_Trim r2 (by show List.length _ ≤ _; omega)]
  simp only [Option.bind_some]
  congr 2; omega
end Go.Proofs.YtgjncgiekniniaaGreatDoor.A
end
section
set_option linter.unusedVariables false
set_option linter.unusedSimpArgs false
namespace Go.Proofs.YtgjncgiekniniaaGreatDoor.A
open Go
def tv : Int → List UInt8 → Int
  | acc, [] => acc
  | acc, b :: s => tv (10 * acc + (b.toNat : Int) - 48) s
def digit (b : UInt8) : Prop := 48 ≤ b.toNat ∧ b.toNat ≤ 57
def digits (s : List UInt8) : Prop := ∀ b ∈ s, digit b
theorem tv_append : ∀ (s t : List UInt8) (a : Int), tv a (s ++ t) = tv (tv a s) t
  | [], _, _ => rfl
  | b :: s, t, a => tv_append s t _
theorem tv_acc : ∀ (s : List UInt8) (a : Int), tv a s = a * (10 ^ s.length : Nat) + tv 0 s
  | [], a => by simp [tv]
  | b :: s, a => by
    have h1 := tv_acc s (10 * a + (b.toNat : Int) - 48)
    have h2 := tv_acc s (10 * 0 + (b.toNat : Int) - 48)
    show tv (10 * a + (b.toNat : Int) - 48) s = a * _ + tv (10 * 0 + (b.toNat : Int) - 48) s
    rw [h1, h2, List.length_cons, Nat.pow_succ, Int.natCast_mul]
    generalize ((10 ^ s.length : Nat) : Int) = p
    grind
theorem tv_bound : ∀ {s : List UInt8}, digits s → 0 ≤ tv 0 s ∧ tv 0 s < (10 ^ s.length : Nat)
  | [], _ => by simp [tv]
  | b :: s, h => by
    have hb := h b (by simp)
    have ih := tv_bound (s := s) fun x hx => h x (by simp [hx])
    have e : tv 0 (b :: s) = ((b.toNat : Int) - 48) * (10 ^ s.length : Nat) + tv 0 s := by
      show tv (10 * 0 + (b.toNat : Int) - 48) s = _
      rw [tv_acc]; simp
    have hp : (0 : Int) ≤ (10 ^ s.length : Nat) := Int.natCast_nonneg _
    unfold digit at hb
    have h1 : 0 ≤ ((b.toNat : Int) - 48) * (10 ^ s.length : Nat) := Int.mul_nonneg (by omega) hp
    have h2 : ((b.toNat : Int) - 48) * (10 ^ s.length : Nat) ≤ 9 * (10 ^ s.length : Nat) := Int.mul_le_mul_of_nonneg_right (by omega) hp
    rw [e, List.length_cons, Nat.pow_succ, Int.natCast_mul]
    omega
theorem read_l2 {s : List UInt8} (hs : digits s) (hl : s.length ≤ 900000000) (e : Nat) (he : e ≤ s.length) : ∀ (f i : Nat) (d : Int), i + f = e → f ≤ 4 → 0 ≤ d ∧ d < 10 ^ 12 / (10 ^ f : Nat) →
    Runs (fun rec x => z85.l2P s (e : Int) rec some x) (d, (i : Int)) (tv d ((s.take e).drop i), (e : Int))
  | 0, i, d, hf, _, _ => by
    have : i = e := by omega
    subst this
    refine .done fun rec => ?_
    unfold z85.l2P
    simp only
    rw [bif_f (by omega), List.drop_eq_nil_of_le (by simp; omega)]
    rfl
  | f + 1, i, d, hf, h4, hd => by
    have hi : i < s.length := by omega
    have hb := hs s[i] (List.getElem_mem hi)
    unfold digit at hb
    have hd' : d < 10 ^ 11 := by
      have : f = 0 ∨ f = 1 ∨ f = 2 ∨ f = 3 := by omega
      rcases this with rfl | rfl | rfl | rfl <;> simp at hd ⊢ <;> omega
    have hn : 0 ≤ 10 * d + (s[i].toNat : Int) - 48 ∧ 10 * d + (s[i].toNat : Int) - 48 < 10 ^ 12 / (10 ^ f : Nat) := by
      have : f = 0 ∨ f = 1 ∨ f = 2 ∨ f = 3 := by omega
      rcases this with rfl | rfl | rfl | rfl <;> simp at hd ⊢ <;> omega
    have ih := read_l2 hs hl e he f (i + 1) (10 * d + (s[i].toNat : Int) - 48) (by omega) (by omega) hn
    have hlt : i < (s.take e).length := by simp; omega
    rw [List.drop_eq_getElem_cons hlt, List.getElem_take]
    refine .step (fun rec => ?_) ih
    unfold z85.l2P
    simp only
    have eg : s.getD i 0 = s[i] := by simp [List.getD, hi]
    rw [bif_t (by omega), if_pos (by omega), Int.toNat_natCast, eg, wr_i64 (n := 10 * d) (by omega) (by omega), wr_i64 (n := (s[i].toNat : Int)) (by omega) (by omega), wr_i64 (n := 10 * d + (s[i].toNat : Int)) (by omega) (by omega), wr_i64 (n := 10 * d + (s[i].toNat : Int) - 48) (by omega) (by omega), wr_i64 (n := (i : Int) + 1) (by omega) (by omega)]
    rfl
theorem read_l0 {s : List UInt8} (hs : digits s) (hl : s.length ≤ 900000000) : ∀ (f e : Nat) (out : List Int), e ≤ 4 * f → e ≤ s.length → out.length ≤ 900000000 - e → inB 10000 out → valB 10000 out + (10000 ^ out.length : Nat) * tv 0 (s.take e) = tv 0 s →
    ∃ e' out', Runs (fun rec x => z85.l0P s rec some x) ((e : Int), out) (e', out') ∧ inB 10000 out' ∧ out'.length ≤ 900000004 ∧ valB 10000 out' = tv 0 s
  | 0, e, out, hf, he, ho, hi, hv => by
    have : e = 0 := by omega
    subst this
    refine ⟨0, out, .done fun rec => ?_, hi, by omega, by simpa [tv] using hv⟩
    unfold z85.l0P; simp
  | f + 1, e, out, hf, he, ho, hi, hv => by
    rcases Nat.eq_zero_or_pos e with rfl | h0
    · refine ⟨0, out, .done fun rec => ?_, hi, by omega, by simpa [tv] using hv⟩
      unfold z85.l0P; simp
    · have hds : digits ((s.take e).drop (e - 4)) := fun b hb => hs b (List.mem_of_mem_take (List.mem_of_mem_drop hb))
      have hlen : ((s.take e).drop (e - 4)).length ≤ 4 := by rw [List.length_drop, List.length_take]; omega
      have htb := tv_bound hds
      have hlt : tv 0 ((s.take e).drop (e - 4)) < 10000 := by
        have h1 : (10 ^ ((s.take e).drop (e - 4)).length : Nat) ≤ 10 ^ 4 := Nat.pow_le_pow_right (by decide) hlen
        have h2 : ((10 ^ ((s.take e).drop (e - 4)).length : Nat) : Int) ≤ 10000 := Int.ofNat_le.2 h1
        omega
      have r := read_l2 hs hl e he (e - (e - 4)) (e - 4) 0 (by omega) (by omega) ⟨Int.le_refl 0, by
        have : e - (e - 4) = 1 ∨ e - (e - 4) = 2 ∨ e - (e - 4) = 3 ∨ e - (e - 4) = 4 := by omega
        rcases this with h | h | h | h <;> rw [h] <;> omega⟩
      have er : z85.l2 s (e : Int) ((0 : Int), ((e - 4 : Nat) : Int)) = some (tv 0 ((s.take e).drop (e - 4)), (e : Int)) := r.lfp
      have e1 : wr .i64 ((e : Int) - 4) = (e : Int) - 4 := wr_i64 (by omega) (by omega)
      have e2 : (if (e : Int) - 4 > 0 then (e : Int) - 4 else 0) = ((e - 4 : Nat) : Int) := by split <;> omega
      have c1 : ∀ x : Int, (out.length + [x].length) * 8 ≤ 140737488355328 := fun x => by simp; omega
      have step : ∀ rec, z85.l0P s rec some ((e : Int), out) = rec ((e : Int) - 4, out ++ [tv 0 ((s.take e).drop (e - 4))]) := fun rec => by
        unfold z85.l0P
        simp only [e1, e2]
        rw [bif_t (by omega), er]
        simp only [Option.bind_some]
        rw [if_pos (c1 _)]
      by_cases h4 : 4 ≤ e
      · obtain ⟨e', out', r1, r2, r3, r4⟩ := read_l0 hs hl f (e - 4) (out ++ [tv 0 ((s.take e).drop (e - 4))]) (by omega) (by omega) (by rw [List.length_append, List.length_singleton]; omega) (inB_snoc hi (by omega)) (by
          rw [valB_snoc, ← hv]
          have e3 : s.take e = s.take (e - 4) ++ (s.take e).drop (e - 4) := by
            have := List.take_append_drop (e - 4) (s.take e)
            rw [List.take_take, Nat.min_eq_left (by omega)] at this
            exact this.symm
          have e4 : tv 0 (s.take e) = tv 0 (s.take (e - 4)) * 10000 + tv 0 ((s.take e).drop (e - 4)) := by
            conv => lhs; rw [e3]
            rw [tv_append, tv_acc]
            have : ((s.take e).drop (e - 4)).length = 4 := by rw [List.length_drop, List.length_take]; omega
            rw [this]; rfl
          rw [e4, List.length_append, List.length_singleton, Nat.pow_succ, Int.natCast_mul]
          generalize ((10000 ^ out.length : Nat) : Int) = p
          grind)
        have e5 : (e : Int) - 4 = ((e - 4 : Nat) : Int) := by omega
        exact ⟨e', out', .step (fun rec => by rw [step rec, e5]) r1, r2, r3, r4⟩
      · refine ⟨(e : Int) - 4, out ++ [tv 0 ((s.take e).drop (e - 4))], .step step (.done fun rec => ?_), inB_snoc hi (by omega), by rw [List.length_append, List.length_singleton]; omega, ?_⟩
        · unfold z85.l0P
          simp only
          rw [bif_f (by omega)]
        · have e6 : e - 4 = 0 := by omega
          rw [valB_snoc, ← hv, e6, List.drop_zero]
theorem ref01_Read {s : List UInt8} (hs : digits s) (hl : s.length ≤ 800000000) : z85.F s = some (dg (tv 0 s).toNat) := by
  obtain ⟨e', out', r1, r2, r3, r4⟩ := read_l0 hs (by omega) s.length s.length [] (by omega) (Nat.le_refl _) (Nat.zero_le _) (inB_nil _) (by simp [valB])
  have e : z85.l0 s ((s.length : Int), []) = some (e', out') := r1.lfp
  unfold z85.F
  rw [e]
  simp only [Option.bind_some]
  rw [ref01_Trim r2 (by show List.length _ ≤ _; omega), r4]
  rfl
end Go.Proofs.YtgjncgiekniniaaGreatDoor.A
end
section
set_option linter.unusedVariables false
set_option linter.unusedSimpArgs false
namespace Go.Proofs.YtgjncgiekniniaaGreatDoor.A
open Go
theorem tv_rev : ∀ {l : List Int}, inB 10 l → tv 0 (l.reverse.map ch) = valB 10 l
  | [], _ => rfl
  | x :: l, h => by
    rw [inB_cons] at h
    rw [List.reverse_cons, List.map_append, tv_append, tv_rev h.2]
    show 10 * valB 10 l + ((ch x).toNat : Int) - 48 = x + 10 * valB 10 l
    rw [ch_toNat h.1.1 h.1.2]; omega
theorem txt_digits (n : Nat) : digits (txt n) := by
  unfold txt
  split
  · intro b hb; simp at hb; subst hb; unfold digit; decide
  · intro b hb
    rw [List.mem_map] at hb
    obtain ⟨d, hd, rfl⟩ := hb
    have := toB_in b10 n d (List.mem_reverse.1 hd)
    unfold digit
    rw [ch_toNat this.1 this.2]; omega
theorem tv_txt (n : Nat) : tv 0 (txt n) = n := by
  unfold txt
  split
  · rename_i h; subst h; decide
  · rw [tv_rev (toB_in b10 n), valB_toB b10]
theorem txt_ne (n : Nat) : txt n ≠ [] := by
  unfold txt
  split
  · simp
  · rename_i h
    simp only [ne_eq, List.map_eq_nil_iff, List.reverse_eq_nil_iff]
    exact fun e => h ((toB_nil b10).1 e)
theorem txt_head {n : Nat} (hn : n ≠ 0) : ∃ b s, txt n = b :: s ∧ b.toNat ≠ 48 := by
  have h := toB_last b10 n (fun e => hn ((toB_nil b10).1 e))
  have hne : toB 10 n ≠ [] := fun e => hn ((toB_nil b10).1 e)
  have hin := toB_in b10 n _ (List.getLast_mem hne)
  refine ⟨ch ((toB 10 n).getLast hne), ((toB 10 n).dropLast.reverse.map ch), ?_, ?_⟩
  · unfold txt
    rw [if_neg hn]
    conv => lhs; rw [← List.dropLast_concat_getLast hne]
    rw [List.reverse_append]; rfl
  · rw [ch_toNat hin.1 hin.2]; omega
theorem txt_len {n k : Nat} (h : n < 10 ^ k) (hk : 0 < k) : (txt n).length ≤ k := by
  unfold txt
  split
  · show 1 ≤ k; omega
  · rw [List.length_map, List.length_reverse]; exact toB_len_le b10 h
end Go.Proofs.YtgjncgiekniniaaGreatDoor.A
end
section
set_option linter.unusedVariables false
set_option linter.unusedSimpArgs false
namespace Go.Proofs.YtgjncgiekniniaaGreatDoor.A
open Go
abbrev neg (z : Int) : Bool := decide (z < 0)
theorem dg_len0 (n : Nat) : (((dg n).length : Nat) : Int) = 0 ↔ n = 0 := by
  constructor
  · intro h; exact (toB_nil b4).1 (List.length_eq_zero_iff.1 (Int.ofNat_eq_zero.1 h))
  · rintro rfl; simp [dg, toB_zero]
theorem dg_lenp (n : Nat) : (((dg n).length : Nat) : Int) > 0 ↔ 0 < n := by
  have := dg_len0 n; omega
theorem ref04_Of (n : Nat) (b : Bool) : z8.F (dg n) b = some (dg n, b && decide (0 < n)) := by
  unfold z8.F
  cases b
  · rfl
  · simp only [cond_true, Bool.true_and]
    congr 2
    exact decide_eq_decide.2 (dg_lenp n)
theorem ref04_Of' {z : Int} {b : Bool} (h : (b = true ∧ z ≤ 0) ∨ (b = false ∧ 0 ≤ z)) : z8.F (dg z.natAbs) b = some (dg z.natAbs, neg z) := by
  rw [ref04_Of]
  congr 2
  rcases h with ⟨rfl, h⟩ | ⟨rfl, h⟩
  · rw [Bool.true_and]; exact decide_eq_decide.2 (by omega)
  · rw [Bool.false_and]; symm; exact decide_eq_false (by omega)
theorem ref04_From {z : Int} (h : -9223372036854775808 < z ∧ z < 9223372036854775808) : z10.F z = some (dg z.natAbs, neg z) := by
  unfold z10.F
  by_cases hz : z < 0
  · have e : wr .i64 (0 - z) = ((z.natAbs : Nat) : Int) := by rw [wr_i64 (by omega) (by omega)]; omega
    rw [bif_t hz, e, ref01_Small (by omega)]
    simp only [Option.bind_some]
    rw [ref04_Of' (z := z) (.inl ⟨rfl, by omega⟩)]; rfl
  · have e : z = ((z.natAbs : Nat) : Int) := by omega
    rw [bif_f hz]
    conv => lhs; rw [e]
    rw [ref01_Small (by omega)]
    simp only [Option.bind_some]
    rw [ref04_Of' (z := z) (.inr ⟨rfl, by omega⟩)]; rfl
theorem ref04_Neg (z : Int) : z90.F (dg z.natAbs) (neg z) = some (dg (-z).natAbs, neg (-z)) := by
  unfold z90.F
  have e : z.natAbs = (-z).natAbs := by omega
  rw [e, ref04_Of]
  simp only [Option.bind_some]
  congr 2
  show (!decide (z < 0) && _) = decide (-z < 0)
  by_cases h : z < 0
  · rw [decide_eq_true h]; symm; simp; omega
  · rw [decide_eq_false h, Bool.not_false, Bool.true_and]; exact decide_eq_decide.2 (by omega)
theorem ref04_Mul {x y : Int} (hl : (dg x.natAbs).length + (dg y.natAbs).length ≤ 900000000) : z14.F (dg x.natAbs) (neg x) (dg y.natAbs) (neg y) = some (dg (x * y).natAbs, neg (x * y)) := by
  unfold z14.F
  rw [ref01_Mul hl, ← Int.natAbs_mul]
  simp only [Option.bind_some]
  rw [ref04_Of]
  simp only [Option.bind_some]
  congr 2
  have h0 : 0 < (x * y).natAbs ↔ x ≠ 0 ∧ y ≠ 0 := by
    rw [Int.natAbs_mul]
    constructor
    · intro h; exact ⟨by rintro rfl; simp at h, by rintro rfl; simp at h⟩
    · rintro ⟨h1, h2⟩; exact Nat.mul_pos (by omega) (by omega)
  rw [Bool.eq_iff_iff]
  simp only [Bool.and_eq_true, Bool.not_eq_true', decide_eq_true_eq, decide_eq_false_iff_not, h0]
  rcases Int.lt_trichotomy x 0 with hx | hx | hx <;> rcases Int.lt_trichotomy y 0 with hy | hy | hy
  · have := Int.mul_pos_of_neg_of_neg hx hy; simp [hx, hy]; omega
  · subst hy; simp
  · have := Int.mul_neg_of_neg_of_pos hx hy; simp [hx]; omega
  · subst hx; simp
  · subst hx; simp
  · subst hx; simp
  · have := Int.mul_neg_of_pos_of_neg hx hy; simp [hy]; omega
  · subst hy; simp
  · have := Int.mul_pos hx hy; simp; omega
theorem ref04_Print {z : Int} (hs : 4 * (dg z.natAbs).length ≤ 1000000000) (hl : (txt z.natAbs).length ≤ 1000000000) : z7.F (dg z.natAbs) (neg z) = some (if z < 0 then 45 :: txt z.natAbs else txt z.natAbs) := by
  unfold z7.F
  rw [ref01_Print hs]
  simp only [Option.bind_some]
  by_cases h : z < 0
  · rw [bif_t h, if_pos (by simp; omega), if_pos h]; rfl
  · rw [bif_f h, if_neg h]
theorem of_at {z : Int} {n : Nat} {b : Bool} (hn : n = z.natAbs) (h : (b = true ∧ z ≤ 0) ∨ (b = false ∧ 0 ≤ z)) : z8.F (dg n) b = some (dg z.natAbs, neg z) := by
  subst hn; exact ref04_Of' h
theorem cmpI_ge {m n : Int} : cmpI m n ≥ 0 ↔ n ≤ m := by unfold cmpI; split <;> (try split) <;> omega
theorem ref04_Add {x y : Int} (hl : (dg x.natAbs).length + (dg y.natAbs).length ≤ 900000000) : z94.F (dg x.natAbs) (neg x) (dg y.natAbs) (neg y) = some (dg (x + y).natAbs, neg (x + y)) := by
  unfold z94.F
  by_cases hs : neg x = neg y
  · have hs' : (x < 0 ↔ y < 0) := by simpa [neg] using hs
    rw [bif_t hs, ref01_Add hl]
    simp only [Option.bind_some]
    rw [of_at (z := x + y) (by omega) (by by_cases hx : x < 0; exact .inl ⟨decide_eq_true hx, by omega⟩; exact .inr ⟨decide_eq_false hx, by omega⟩)]
    rfl
  · have hs' : ¬ (x < 0 ↔ y < 0) := by simpa [neg] using hs
    rw [bif_f hs, ref01_Cmp (by omega)]
    simp only [Option.bind_some]
    by_cases hc : cmpI (x.natAbs : Int) (y.natAbs : Int) ≥ 0
    · have hc' := cmpI_ge.1 hc
      rw [bif_t hc, ref01_Sub (by omega) (by omega)]
      simp only [Option.bind_some]
      rw [of_at (z := x + y) (by omega) (by by_cases hx : x < 0; exact .inl ⟨decide_eq_true hx, by omega⟩; exact .inr ⟨decide_eq_false hx, by omega⟩)]
      rfl
    · have hc' : ¬ ((y.natAbs : Int) ≤ x.natAbs) := fun h => hc (cmpI_ge.2 h)
      rw [bif_f hc, ref01_Sub (by omega) (by omega)]
      simp only [Option.bind_some]
      rw [of_at (z := x + y) (by omega) (by by_cases hy : y < 0; exact .inl ⟨decide_eq_true hy, by omega⟩; exact .inr ⟨decide_eq_false hy, by omega⟩)]
      rfl
theorem ref04_Sub {x y : Int} (hl : (dg x.natAbs).length + (dg y.natAbs).length ≤ 900000000) : z95.F (dg x.natAbs) (neg x) (dg y.natAbs) (neg y) = some (dg (x - y).natAbs, neg (x - y)) := by
  unfold z95.F
  rw [ref04_Neg]
  simp only [Option.bind_some]
  rw [ref04_Add (by rw [Int.natAbs_neg]; exact hl)]
  rfl
theorem ref04_Sign (z : Int) : z96.F (dg z.natAbs) (neg z) = some (cmpI z 0) := by
  unfold z96.F cmpI
  by_cases h0 : z = 0
  · subst h0; rw [bif_t ((dg_len0 (Int.natAbs 0)).2 rfl)]; rfl
  · rw [bif_f (fun h => h0 (by have := (dg_len0 _).1 h; omega))]
    by_cases h : z < 0
    · rw [bif_t h, if_pos h]
    · rw [bif_f h, if_neg h, if_neg h0]
theorem cmpI_sub (x y : Int) : cmpI (x - y) 0 = cmpI x y := by
  unfold cmpI; split <;> split <;> (try split) <;> (try split) <;> first | rfl | omega
theorem ref04_Cmp {x y : Int} (hl : (dg x.natAbs).length + (dg y.natAbs).length ≤ 900000000) : z97.F (dg x.natAbs) (neg x) (dg y.natAbs) (neg y) = some (cmpI x y) := by
  unfold z97.F
  rw [ref04_Sub hl]
  simp only [Option.bind_some]
  rw [ref04_Sign, cmpI_sub]
  rfl
end Go.Proofs.YtgjncgiekniniaaGreatDoor.A
end
section
set_option linter.unusedVariables false
set_option linter.unusedSimpArgs false
namespace Go.Proofs.YtgjncgiekniniaaGreatDoor.A
open Go
abbrev LB : Nat := 18446744073709551616
abbrev lb (n : Nat) : List Int := toB LB n
theorem bL : 2 ≤ LB := by decide
theorem lb_len0 (n : Nat) : (((lb n).length : Nat) : Int) = 0 ↔ n = 0 := by
  constructor
  · intro h; exact (toB_nil bL).1 (List.length_eq_zero_iff.1 (Int.ofNat_eq_zero.1 h))
  · rintro rfl; simp [lb, toB_zero]
theorem nat_Zero (n : Nat) : z15.F (lb n) = some (decide (n = 0)) := by
  unfold z15.F; congr 1; exact decide_eq_decide.2 (lb_len0 n)
theorem nat_limb {l : List Int} {i : Nat} : z18.F l (i : Int) = some (l.getD i 0) := by
  unfold z18.F
  by_cases h : (i : Int) ≥ (l.length : Int)
  · rw [bif_t h]
    have : l.getD i 0 = 0 := by simp [List.getD, List.getElem?_eq_none (show l.length ≤ i by omega)]
    rw [this]
  · rw [bif_f h, if_pos (by omega), Int.toNat_natCast]
theorem nat_trim {l : List Int} (hl : inB LB l) (hs : short l) : z19.F l = some (lb (valB LB l).toNat) := by
  have h := ref01_Trim_gen bL hl hs
  unfold z12.F at h
  unfold z19.F
  have e : z19.l0b6 l = z12.l0b6 l := rfl
  rw [e]
  revert h
  cases z12.l0b6 l ((l.length : Nat) : Int) with
  | none => exact id
  | some o =>
    simp only [Option.bind_some]
    intro h
    split at h
    · rename_i hc
      rw [if_pos ⟨hc.1, Int.le_refl _, hc.2⟩]; exact h
    · simp at h
theorem cmp_int (x y : Int) : z22.F x y = some (cmpI x y) := by
  unfold z22.F z21.F cmpI
  simp only [Option.bind_some, decide_true, Bool.not_true, cond_false]
  by_cases h : x < y
  · rw [bif_t h, if_pos h]
  · rw [bif_f h, if_neg h]
    by_cases h' : x > y
    · rw [bif_t h', if_neg (by omega)]
    · rw [bif_f h', if_pos (by omega)]
theorem cmp_u64 (x y : Int) : z24.F x y = some (cmpI x y) := cmp_int x y
theorem natcmp_loop {a b : List Int} (ha : inB LB a) (hb : inB LB b) (hl : a.length = b.length) (hal : a.length ≤ 900000000) : ∀ k : Nat, k ≤ a.length →
    ∃ o : Int ⊕ Int, Runs (fun rec x => z25.l0P a b rec some x) ((k : Int) - 1) o ∧ (match o with | .inl _ => (0 : Int) | .inr q => q) = cmpI (valB LB (a.take k)) (valB LB (b.take k))
  | 0, _ => ⟨.inl (-1), .done fun rec => by unfold z25.l0P; rw [bif_f (by omega)]; rfl, by simp [cmpI, valB]⟩
  | k + 1, hk => by
    have hka : k < a.length := by omega
    have hkb : k < b.length := by omega
    have e0 : ((k + 1 : Nat) : Int) - 1 = (k : Int) := by omega
    obtain ⟨p1, p2⟩ := cmp_part bL ha hb hka hkb
    obtain ⟨p3, _⟩ := cmp_part bL hb ha hkb hka
    have c1 : (0 : Int) ≤ (k : Int) ∧ (k : Int) < (a.length : Int) := by omega
    have c2 : (0 : Int) ≤ (k : Int) ∧ (k : Int) < (b.length : Int) := by omega
    rw [e0]
    by_cases h : a[k] = b[k]
    · obtain ⟨o, r1, r2⟩ := natcmp_loop ha hb hl hal k (by omega)
      refine ⟨o, .step (fun rec => ?_) r1, ?_⟩
      · unfold z25.l0P
        rw [bif_t (by omega), Int.toNat_natCast, getD_eq hka, getD_eq hkb, if_pos c1, if_pos c2, cmp_u64]
        simp only [Option.bind_some]
        have : cmpI a[k] b[k] = 0 := by unfold cmpI; rw [if_neg (by omega), if_pos h]
        rw [this, wr_i64 (by omega) (by omega)]
        rfl
      · rw [r2]
        have := p2 h
        unfold cmpI
        split <;> split <;> (try split) <;> (try split) <;> first | rfl | omega
    · refine ⟨.inr (cmpI a[k] b[k]), .done fun rec => ?_, ?_⟩
      · unfold z25.l0P
        rw [bif_t (by omega), Int.toNat_natCast, getD_eq hka, getD_eq hkb, if_pos c1, if_pos c2, cmp_u64]
        simp only [Option.bind_some]
        have : ¬ cmpI a[k] b[k] = 0 := by unfold cmpI; split <;> (try split) <;> omega
        rw [decide_eq_false this]
        rfl
      · rcases Int.lt_or_gt_of_ne h with h' | h'
        · have := p1 h'
          unfold cmpI; rw [if_pos h', if_pos this]
        · have := p3 h'
          unfold cmpI; rw [if_neg (by omega), if_neg (by omega), if_neg (by omega), if_neg (by omega)]
theorem nat_Cmp {m n : Nat} (hl : (lb m).length ≤ 900000000) : z25.F (lb m) (lb n) = some (cmpI m n) := by
  unfold z25.F
  rw [cmp_int]
  simp only [Option.bind_some]
  by_cases he : (lb m).length = (lb n).length
  · have e1 : cmpI ((lb m).length : Int) ((lb n).length : Int) = 0 := by unfold cmpI; rw [if_neg (by omega), if_pos (by omega)]
    rw [e1]
    simp only [decide_true, Bool.not_true, cond_false]
    obtain ⟨o, r1, r2⟩ := natcmp_loop (a := lb m) (b := lb n) (toB_in bL m) (toB_in bL n) he hl (lb m).length (Nat.le_refl _)
    rw [wr_i64 (by omega) (by omega)]
    unfold z25.l0
    rw [r1.lfp]
    simp only [Option.bind_some]
    rw [List.take_length, he, List.take_length, valB_toB bL, valB_toB bL] at r2
    rw [← r2]
    cases o <;> rfl
  · rcases Nat.lt_or_gt_of_ne he with h | h
    · have := toB_lt_of_len bL h
      have e1 : cmpI ((lb m).length : Int) ((lb n).length : Int) = -1 := by unfold cmpI; rw [if_pos (by omega)]
      have e2 : cmpI (m : Int) n = -1 := by unfold cmpI; rw [if_pos (by omega)]
      rw [e1, e2]; rfl
    · have := toB_lt_of_len bL h
      have e1 : cmpI ((lb m).length : Int) ((lb n).length : Int) = 1 := by unfold cmpI; rw [if_neg (by omega), if_neg (by omega)]
      have e2 : cmpI (m : Int) n = 1 := by unfold cmpI; rw [if_neg (by omega), if_neg (by omega)]
      rw [e1, e2]; rfl
end Go.Proofs.YtgjncgiekniniaaGreatDoor.A
end
section
set_option linter.unusedVariables false
set_option linter.unusedSimpArgs false
namespace Go.Proofs.YtgjncgiekniniaaGreatDoor.A
open Go
theorem and_mask (a : Int) (h0 : 0 ≤ a) : wr .u64 ((BitVec.ofInt (IntKind.bits .u64) a &&& BitVec.ofInt (IntKind.bits .u64) (4294967295 : Int)).toNat : Int) = a % 4294967296 := by
  have e : (BitVec.ofInt (IntKind.bits .u64) a &&& BitVec.ofInt (IntKind.bits .u64) (4294967295 : Int)).toNat = (a % 4294967296).toNat := by
    rw [BitVec.toNat_and]
    have e1 : (BitVec.ofInt (IntKind.bits .u64) (4294967295 : Int)).toNat = 2 ^ 32 - 1 := rfl
    have e2 : (BitVec.ofInt (IntKind.bits .u64) a).toNat = (a % 18446744073709551616).toNat := by
      rw [BitVec.toNat_ofInt]; rfl
    rw [e1, Nat.and_two_pow_sub_one_eq_mod, e2]
    omega
  rw [e, wr_u64 (by omega) (by omega)]; omega
theorem shr32 (a : Int) : Int.fdiv a (2 ^ (min 32 (64 : Nat))) = a / 4294967296 := by
  rw [Int.fdiv_eq_ediv_of_nonneg _ (by decide)]; rfl
theorem mul64 {a b : Int} (ha : 0 ≤ a ∧ a < 18446744073709551616) (hb : 0 ≤ b ∧ b < 18446744073709551616) : z35.F a b = some (a * b / 18446744073709551616, a * b % 18446744073709551616) := by
  unfold z35.F
  simp only [shr32]
  rw [and_mask a ha.1, and_mask b hb.1]
  generalize hx1 : a / 4294967296 = x1
  generalize hx0 : a % 4294967296 = x0
  generalize hy1 : b / 4294967296 = y1
  generalize hy0 : b % 4294967296 = y0
  have ea : a = 4294967296 * x1 + x0 := by omega
  have eb : b = 4294967296 * y1 + y0 := by omega
  have bx1 : 0 ≤ x1 ∧ x1 ≤ 4294967295 := by omega
  have bx0 : 0 ≤ x0 ∧ x0 ≤ 4294967295 := by omega
  have by1 : 0 ≤ y1 ∧ y1 ≤ 4294967295 := by omega
  have by0 : 0 ≤ y0 ∧ y0 ≤ 4294967295 := by omega
  have m00 : 0 ≤ x0 * y0 ∧ x0 * y0 ≤ 4294967295 * 4294967295 := ⟨Int.mul_nonneg bx0.1 by0.1, Int.mul_le_mul bx0.2 by0.2 by0.1 (by decide)⟩
  have m10 : 0 ≤ x1 * y0 ∧ x1 * y0 ≤ 4294967295 * 4294967295 := ⟨Int.mul_nonneg bx1.1 by0.1, Int.mul_le_mul bx1.2 by0.2 by0.1 (by decide)⟩
  have m01 : 0 ≤ x0 * y1 ∧ x0 * y1 ≤ 4294967295 * 4294967295 := ⟨Int.mul_nonneg bx0.1 by1.1, Int.mul_le_mul bx0.2 by1.2 by1.1 (by decide)⟩
  have m11 : 0 ≤ x1 * y1 ∧ x1 * y1 ≤ 4294967295 * 4294967295 := ⟨Int.mul_nonneg bx1.1 by1.1, Int.mul_le_mul bx1.2 by1.2 by1.1 (by decide)⟩
  have eab : a * b = 18446744073709551616 * (x1 * y1) + 4294967296 * (x1 * y0) + 4294967296 * (x0 * y1) + x0 * y0 := by rw [ea, eb]; grind
  rw [eab]
  generalize x0 * y0 = p00 at *
  generalize x1 * y0 = p10 at *
  generalize x0 * y1 = p01 at *
  generalize x1 * y1 = p11 at *
  rw [wr_u64 (n := p00) (by omega) (by omega), wr_u64 (n := p10) (by omega) (by omega), wr_u64 (n := p01) (by omega) (by omega), wr_u64 (n := p11) (by omega) (by omega)]
  rw [wr_u64 (n := p10 + p00 / 4294967296) (by omega) (by omega)]
  rw [and_mask _ (by omega)]
  rw [wr_u64 (n := p11 + (p10 + p00 / 4294967296) / 4294967296) (by omega) (by omega)]
  rw [wr_u64 (n := (p10 + p00 / 4294967296) % 4294967296 + p01) (by omega) (by omega)]
  rw [wr_u64 (n := p11 + (p10 + p00 / 4294967296) / 4294967296 + ((p10 + p00 / 4294967296) % 4294967296 + p01) / 4294967296) (by omega) (by omega)]
  rw [wr_u64_mod]
  congr 2; omega
theorem add64 {x y c : Int} (hx : 0 ≤ x) (hy : 0 ≤ y) (hc : 0 ≤ c ∧ c ≤ 1) : z0.F x y c = some ((x + y + c) % 18446744073709551616, (x + y + c) / 18446744073709551616) := by
  unfold z0.F; rw [if_pos (by omega)]
end Go.Proofs.YtgjncgiekniniaaGreatDoor.A
end
section
set_option linter.unusedVariables false
set_option linter.unusedSimpArgs false
namespace Go.Proofs.YtgjncgiekniniaaGreatDoor.A
open Go
theorem getD_set_ne {s : List Int} {i j : Nat} {x : Int} (h : i ≠ j) : (s.set i x).getD j 0 = s.getD j 0 := by
  simp [List.getD, List.getElem?_set_ne h]
theorem getD_replicate (n j : Nat) : (List.replicate n (0 : Int)).getD j 0 = 0 := by
  simp only [List.getD, List.getElem?_replicate]; split <;> rfl
theorem natadd_loop {a b : List Int} {n : Nat} (ha : inB LB a) (hb : inB LB b) (hn : n ≤ 900000000) (han : a.length < n) (hbn : b.length < n) :
    ∀ (f i : Nat) (c : Int) (s : List Int), i + f = n → s.length = n → inB LB s → (∀ j, i ≤ j → s.getD j 0 = 0) → 0 ≤ c ∧ c ≤ 1 →
      valB LB s + (c + valB LB (a.drop i) + valB LB (b.drop i)) * (LB ^ i : Nat) = valB LB a + valB LB b →
      ∃ c' s', Runs (fun rec x => z20.l0P (n : Int) a b rec some x) (c, (i : Int), s) (c', (n : Int), s') ∧ inB LB s' ∧ s'.length = n ∧ (0 ≤ c' ∧ c' ≤ 1) ∧ valB LB s' + c' * (LB ^ n : Nat) = valB LB a + valB LB b
  | 0, i, c, s, hf, hl, hs, hz, hc, hv => by
    have : i = n := by omega
    subst this
    refine ⟨c, s, .done fun rec => ?_, hs, hl, hc, ?_⟩
    · unfold z20.l0P
      simp only
      rw [bif_f (by omega)]
    · rw [List.drop_eq_nil_of_le (by omega), List.drop_eq_nil_of_le (by omega)] at hv
      simpa [valB] using hv
  | f + 1, i, c, s, hf, hl, hs, hz, hc, hv => by
    have hLB : ((LB : Nat) : Int) = 18446744073709551616 := rfl
    have h1 := getD_in (B := LB) (by decide) ha i
    have h2 := getD_in (B := LB) (by decide) hb i
    have hi : i < s.length := by omega
    obtain ⟨c', s', r1, r2, r3, r4, r5⟩ := natadd_loop ha hb hn han hbn f (i + 1) ((a.getD i 0 + b.getD i 0 + c) / 18446744073709551616) (s.set i ((a.getD i 0 + b.getD i 0 + c) % 18446744073709551616)) (by omega) (by simp [hl]) (inB_set hs (by omega))
      (fun j hj => by rw [getD_set_ne (by omega)]; exact hz j (by omega)) (by omega) (by
        rw [valB_set hi, hz i (Nat.le_refl _), ← hv, valB_drop a i, valB_drop b i, Nat.pow_succ, Nat.mul_comm (LB ^ i) LB, Int.natCast_mul]
        generalize hx : a.getD i 0 + b.getD i 0 + c = x
        have e2 : x = 18446744073709551616 * (x / 18446744073709551616) + x % 18446744073709551616 := (Int.mul_ediv_add_emod x _).symm
        have e3 : ((LB : Nat) : Int) = 18446744073709551616 := rfl
        rw [e3]
        generalize x / 18446744073709551616 = q at *
        generalize x % 18446744073709551616 = m at *
        subst e2
        generalize ((LB ^ i : Nat) : Int) = p
        generalize valB LB (a.drop (i + 1)) = w
        generalize valB LB (b.drop (i + 1)) = w'
        generalize a.getD i 0 = u at *
        generalize b.getD i 0 = v at *
        have hc' : c = 18446744073709551616 * q + m - u - v := by omega
        subst hc'
        grind)
    refine ⟨c', s', .step (fun rec => ?_) r1, r2, r3, r4, r5⟩
    unfold z20.l0P
    simp only [nat_limb, Option.bind_some]
    rw [bif_t (by omega), add64 h1.1 h2.1 hc]
    simp only [Option.bind_some]
    rw [if_pos (by omega), Int.toNat_natCast, if_pos hi, wr_i64 (by omega) (by omega)]
    rfl
theorem lb_lt {n k : Nat} (h : (lb n).length ≤ k) : n < LB ^ k := Nat.lt_of_lt_of_le (toB_len_lt bL) (Nat.pow_le_pow_right (by decide) h)
theorem nat_Add {m n : Nat} (hl : (lb m).length + (lb n).length ≤ 800000000) : z20.F (lb m) (lb n) = some (lb (m + n)) := by
  unfold z20.F
  generalize hk : max (lb m).length (lb n).length = k
  have e0 : (if (((lb n).length : Nat) : Int) > (((lb m).length : Nat) : Int) then (((lb n).length : Nat) : Int) else (((lb m).length : Nat) : Int)) = (k : Int) := by split <;> omega
  have e1 : wr .i64 ((k : Int) + 1) = ((k + 1 : Nat) : Int) := by rw [wr_i64 (by omega) (by omega)]; omega
  rw [e0, e1, if_pos (by omega), Int.toNat_natCast, List.length_replicate]
  obtain ⟨c', s', r1, r2, r3, r4, r5⟩ := natadd_loop (a := lb m) (b := lb n) (n := k + 1) (toB_in bL m) (toB_in bL n) (by omega) (by omega) (by omega) (k + 1) 0 0 (List.replicate (k + 1) 0) (by omega) (by simp) (inB_replicate (by decide) _)
    (fun j _ => getD_replicate _ j) (by omega) (by rw [valB_replicate]; simp)
  have e : z20.l0 ((k + 1 : Nat) : Int) (lb m) (lb n) ((0 : Int), (0 : Int), List.replicate (k + 1) 0) = some (c', ((k + 1 : Nat) : Int), s') := r1.lfp
  rw [e]
  simp only [Option.bind_some]
  rw [valB_toB bL, valB_toB bL] at r5
  have hm : m < LB ^ k := lb_lt (by omega)
  have hn : n < LB ^ k := lb_lt (by omega)
  have hc : c' = 0 := by
    rcases (show c' = 0 ∨ c' = 1 by omega) with h | h
    · exact h
    · exfalso
      subst h
      have := valB_nonneg r2
      have e3 : ((LB ^ (k + 1) : Nat) : Int) = (LB ^ k : Nat) * 18446744073709551616 := by rw [Nat.pow_succ, Int.natCast_mul]; rfl
      rw [e3] at r5
      omega
  subst hc
  rw [nat_trim r2 (by show List.length _ ≤ _; omega)]
  simp only [Option.bind_some]
  congr 2; omega
theorem natsub_loop {a b : List Int} (ha : inB LB a) (hb : inB LB b) (hal : a.length ≤ 900000000) :
    ∀ (f i : Nat) (c : Int) (s : List Int), i + f = a.length → s.length = a.length → inB LB s → (∀ j, i ≤ j → s.getD j 0 = 0) → 0 ≤ c ∧ c ≤ 1 →
      valB LB s - c * (LB ^ i : Nat) = valB LB (a.take i) - valB LB (b.take i) →
      ∃ c' s', Runs (fun rec x => z26.l0P (a.length : Int) a b rec some x) (c, (i : Int), s) (c', (a.length : Int), s') ∧ inB LB s' ∧ s'.length = a.length ∧ (0 ≤ c' ∧ c' ≤ 1) ∧ valB LB s' - c' * (LB ^ a.length : Nat) = valB LB a - valB LB (b.take a.length)
  | 0, i, c, s, hf, hl, hs, hz, hc, hv => by
    have : i = a.length := by omega
    subst this
    refine ⟨c, s, .done fun rec => ?_, hs, hl, hc, by rwa [List.take_length] at hv⟩
    unfold z26.l0P
    simp only
    rw [bif_f (by omega)]
  | f + 1, i, c, s, hf, hl, hs, hz, hc, hv => by
    have hi : i < a.length := by omega
    have his : i < s.length := by omega
    have hLB : ((LB : Nat) : Int) = 18446744073709551616 := rfl
    have h1 := getD_in (B := LB) (by decide) ha i
    have h2 := getD_in (B := LB) (by decide) hb i
    have eb : valB LB (b.take (i + 1)) = valB LB (b.take i) + (LB ^ i : Nat) * b.getD i 0 := by
      by_cases hb' : i < b.length
      · rw [valB_take_succ hb', getD_eq hb']
      · rw [List.take_of_length_le (by omega), List.take_of_length_le (by omega)]
        simp [List.getD, List.getElem?_eq_none (show b.length ≤ i by omega)]
    have hsub : z1.F (a.getD i 0) (b.getD i 0) c = some ((a.getD i 0 - b.getD i 0 - c) % 18446744073709551616, if a.getD i 0 < b.getD i 0 + c then 1 else 0) := by
      unfold z1.F; rw [if_pos (by omega)]
    obtain ⟨c', s', r1, r2, r3, r4, r5⟩ := natsub_loop ha hb hal f (i + 1) (if a.getD i 0 < b.getD i 0 + c then 1 else 0) (s.set i ((a.getD i 0 - b.getD i 0 - c) % 18446744073709551616)) (by omega) (by simp [hl]) (inB_set hs (by omega))
      (fun j hj => by rw [getD_set_ne (by omega)]; exact hz j (by omega)) (by split <;> omega) (by
        rw [valB_set his, hz i (Nat.le_refl _), valB_take_succ hi, eb, Nat.pow_succ, Nat.mul_comm (LB ^ i) LB, Int.natCast_mul, ← getD_eq hi]
        have e3 : ((LB : Nat) : Int) = 18446744073709551616 := rfl
        rw [e3]
        have e4 : (a.getD i 0 - b.getD i 0 - c) % 18446744073709551616 = a.getD i 0 - b.getD i 0 - c + (if a.getD i 0 < b.getD i 0 + c then 1 else 0) * 18446744073709551616 := by split <;> omega
        rw [e4]
        generalize (if a.getD i 0 < b.getD i 0 + c then (1 : Int) else 0) = q
        generalize ((LB ^ i : Nat) : Int) = p at *
        grind)
    refine ⟨c', s', .step (fun rec => ?_) r1, r2, r3, r4, r5⟩
    unfold z26.l0P
    simp only [nat_limb, Option.bind_some]
    rw [bif_t (by omega), if_pos (by omega), Int.toNat_natCast, hsub]
    simp only [Option.bind_some]
    rw [if_pos (by omega), if_pos his, wr_i64 (by omega) (by omega)]
    rfl
theorem nat_Sub {m n : Nat} (hl : (lb m).length ≤ 800000000) : z26.F (lb m) (lb n) = some (if n ≤ m then (lb (m - n), true) else ([], false)) := by
  unfold z26.F
  rw [nat_Cmp (by omega)]
  simp only [Option.bind_some]
  by_cases h : n ≤ m
  · have h0 : ¬ cmpI (m : Int) n < 0 := by unfold cmpI; split <;> (try split) <;> omega
    rw [bif_f h0, if_pos h, if_pos (by omega), Int.toNat_natCast, List.length_replicate]
    obtain ⟨c', s', r1, r2, r3, r4, r5⟩ := natsub_loop (a := lb m) (b := lb n) (toB_in bL m) (toB_in bL n) (by omega) (lb m).length 0 0 (List.replicate (lb m).length 0) (by omega) (by simp) (inB_replicate (by decide) _)
      (fun j _ => getD_replicate _ j) (by omega) (by rw [valB_replicate]; simp [valB])
    have hlen : (lb n).length ≤ (lb m).length := by
      rcases Nat.lt_or_ge (lb m).length (lb n).length with h' | h'
      · have := toB_lt_of_len bL h'; omega
      · exact h'
    rw [List.take_of_length_le hlen, valB_toB bL, valB_toB bL] at r5
    have h1 := valB_lt bL r2
    rw [r3] at h1
    have hc : c' = 0 := by
      rcases (show c' = 0 ∨ c' = 1 by omega) with h | h
      · exact h
      · subst h; omega
    subst hc
    have e : z26.l0 ((lb m).length : Int) (lb m) (lb n) ((0 : Int), (0 : Int), List.replicate (lb m).length 0) = some ((0 : Int), ((lb m).length : Int), s') := r1.lfp
    rw [e]
    simp only [Option.bind_some]
    rw [nat_trim r2 (by show List.length _ ≤ _; omega)]
    simp only [Option.bind_some]
    congr 3; omega
  · have h0 : cmpI (m : Int) n < 0 := by unfold cmpI; rw [if_pos (by omega)]; decide
    rw [bif_t h0, if_neg h]
end Go.Proofs.YtgjncgiekniniaaGreatDoor.A
end
section
set_option linter.unusedVariables false
set_option linter.unusedSimpArgs false
namespace Go.Proofs.YtgjncgiekniniaaGreatDoor.A
open Go
theorem nat_Of_gen {l : List Int} (hl : inB LB l) (hs : short l) : z34.F l = some (lb (valB LB l).toNat) := by
  have hs' : l.length ≤ 1000000000 := hs
  unfold z34.F
  rw [if_pos (by omega), nat_trim hl hs]; rfl
theorem nat_Of1 {x : Int} (h : 0 ≤ x ∧ x < 18446744073709551616) : z34.F [x] = some (lb x.toNat) := by
  rw [nat_Of_gen (inB_cons.2 ⟨h, inB_nil _⟩) (by show [x].length ≤ _; simp)]
  simp [valB]
theorem nat_Limbs {l : List Int} (hs : short l) : z56.F l = some l := by
  have hs' : l.length ≤ 1000000000 := hs
  unfold z56.F
  rw [if_pos (by omega)]
theorem natmul_inner {x : Int} {a : List Int} {off tot : Nat} (hx : 0 ≤ x ∧ x < 18446744073709551616) (ha : inB LB a) (ht : tot ≤ 1800000000) (hot : off + a.length < tot) :
    ∀ (f i : Nat) (c : Int) (s : List Int), i + f = a.length → s.length = tot → inB LB s → 0 ≤ c ∧ c < 18446744073709551616 →
      ∃ c' s', Runs (fun rec y => z36.l0aP x off (tot - off) a (a.length : Int) rec some y) (c, (i : Int), s) (c', (a.length : Int), s') ∧ inB LB s' ∧ s'.length = tot ∧ (0 ≤ c' ∧ c' < 18446744073709551616) ∧
        (∀ j, off + a.length ≤ j → s'.getD j 0 = s.getD j 0) ∧ valB LB s' + c' * (LB ^ (off + a.length) : Nat) = valB LB s + (c + x * valB LB (a.drop i)) * (LB ^ (off + i) : Nat)
  | 0, i, c, s, hf, hl, hs, hc => by
    have : i = a.length := by omega
    subst this
    refine ⟨c, s, .done fun rec => ?_, hs, hl, hc, fun j _ => rfl, ?_⟩
    · unfold z36.l0aP
      simp only
      rw [bif_f (by omega)]
    · rw [List.drop_eq_nil_of_le (Nat.le_refl _)]; simp [valB]
  | f + 1, i, c, s, hf, hl, hs, hc => by
    have hi : i < a.length := by omega
    have his : off + i < s.length := by omega
    have h1 := getD_in (B := LB) (by decide) ha i
    have h2 := getD_in (B := LB) (by decide) hs (off + i)
    have h1' : 0 ≤ a.getD i 0 ∧ a.getD i 0 < 18446744073709551616 := h1
    have h2' : 0 ≤ s.getD (off + i) 0 ∧ s.getD (off + i) 0 < 18446744073709551616 := h2
    have hp : 0 ≤ x * a.getD i 0 ∧ x * a.getD i 0 ≤ 18446744073709551615 * 18446744073709551615 := ⟨Int.mul_nonneg hx.1 h1'.1, Int.mul_le_mul (by omega) (by omega) h1'.1 (by decide)⟩
    obtain ⟨c', s', r1, r2, r3, r4, r5, r6⟩ := natmul_inner hx ha ht hot f (i + 1) ((x * a.getD i 0 + c + s.getD (off + i) 0) / 18446744073709551616) (s.set (off + i) ((x * a.getD i 0 + c + s.getD (off + i) 0) % 18446744073709551616))
      (by omega) (by simp [hl]) (inB_set hs (by show 0 ≤ _ ∧ _ < (18446744073709551616 : Int); omega)) (by omega)
    refine ⟨c', s', .step (fun rec => ?_) r1, r2, r3, r4, fun j hj => ?_, ?_⟩
    · unfold z36.l0aP
      simp only
      rw [bif_t (by omega), if_pos (by omega), Int.toNat_natCast, mul64 hx h1']
      simp only [Option.bind_some]
      rw [add64 (by omega) hc.1 (by omega)]
      simp only [Option.bind_some]
      rw [if_pos (by omega), if_pos his, add64 h2'.1 (by omega) (by omega)]
      simp only [Option.bind_some]
      rw [if_pos (by omega), if_pos his]
      generalize x * a.getD i 0 = p at hp ⊢
      generalize s.getD (off + i) 0 = u at h2' ⊢
      rw [wr_u64 (n := p / 18446744073709551616 + _) (by omega) (by omega), wr_u64 (by omega) (by omega), wr_i64 (by omega) (by omega)]
      congr 2
      · omega
      · congr 2; omega
    · rw [r5 j hj, getD_set_ne (by omega)]
    · rw [r6, valB_set his, valB_drop a i]
      have e1 : ((LB ^ (off + (i + 1)) : Nat) : Int) = 18446744073709551616 * (LB ^ (off + i) : Nat) := by
        rw [← Nat.add_assoc, Nat.pow_succ, Nat.mul_comm, Int.natCast_mul]; rfl
      rw [e1]
      have e3 : ((LB : Nat) : Int) = 18446744073709551616 := rfl
      rw [e3]
      generalize hy : x * a.getD i 0 + c + s.getD (off + i) 0 = y
      have e2 : y = 18446744073709551616 * (y / 18446744073709551616) + y % 18446744073709551616 := (Int.mul_ediv_add_emod y _).symm
      generalize y / 18446744073709551616 = q at *
      generalize y % 18446744073709551616 = m at *
      generalize ((LB ^ (off + i) : Nat) : Int) = p
      generalize valB LB (a.drop (i + 1)) = w
      generalize valB LB s = z
      generalize s.getD (off + i) 0 = u at *
      generalize a.getD i 0 = v at *
      have hc' : c = 18446744073709551616 * q + m - u - x * v := by omega
      subst hc'
      grind
theorem natmul_outer {a b : List Int} {tot : Nat} (ha : inB LB a) (hb : inB LB b) (ht : tot ≤ 1800000000) (hab : tot = a.length + b.length + 1) :
    ∀ (f i : Nat) (s : List Int), i + f = b.length → s.length = tot → inB LB s → (∀ j, i + a.length ≤ j → s.getD j 0 = 0) → valB LB s = valB LB a * valB LB (b.take i) →
      ∃ s', Runs (fun rec y => z36.l0P b (b.length : Int) a rec some y) ((i : Int), s) ((b.length : Int), s') ∧ inB LB s' ∧ s'.length = tot ∧ valB LB s' = valB LB a * valB LB b
  | 0, i, s, hf, hl, hs, hz, hv => by
    have : i = b.length := by omega
    subst this
    refine ⟨s, .done fun rec => ?_, hs, hl, by rwa [List.take_length] at hv⟩
    unfold z36.l0P
    simp only
    rw [bif_f (by omega)]
  | f + 1, i, s, hf, hl, hs, hz, hv => by
    have hi : i < b.length := by omega
    have hx := getD_in (B := LB) (by decide) hb i
    have hx' : 0 ≤ b.getD i 0 ∧ b.getD i 0 < 18446744073709551616 := hx
    obtain ⟨c, s1, r1, r2, r3, r4, r5, r6⟩ := natmul_inner (x := b.getD i 0) (a := a) (off := i) (tot := tot) hx' ha ht (by omega) a.length 0 0 s (by omega) hl hs (by omega)
    have e0 : z36.l0a (b.getD i 0) i (tot - i) a (a.length : Int) ((0 : Int), (0 : Int), s) = some (c, (a.length : Int), s1) := r1.lfp
    have hz1 : s1.getD (i + a.length) 0 = 0 := by rw [r5 _ (Nat.le_refl _)]; exact hz _ (Nat.le_refl _)
    have hi1 : i + a.length < s1.length := by omega
    obtain ⟨s', q1, q2, q3, q4⟩ := natmul_outer ha hb ht hab f (i + 1) (s1.set (i + a.length) c) (by omega) (by simp [r3]) (inB_set r2 r4)
      (fun j hj => by rw [getD_set_ne (by omega), r5 j (by omega)]; exact hz j (by omega)) (by
        rw [valB_set hi1, hz1, valB_take_succ hi, Int.mul_add, ← hv, ← getD_eq hi]
        simp only [List.drop_zero, Nat.add_zero, Int.zero_add] at r6
        generalize ((LB ^ (i + a.length) : Nat) : Int) = p at *
        generalize ((LB ^ i : Nat) : Int) = p2 at *
        grind)
    refine ⟨s', .step (fun rec => ?_) q1, q2, q3, q4⟩
    unfold z36.l0P
    simp only
    rw [bif_t (by omega), if_pos (by omega), if_pos (by omega), Int.toNat_natCast, hl, e0]
    simp only [Option.bind_some, Int.toNat_natCast]
    rw [if_pos (by omega), if_pos hi1, if_pos (by omega), if_pos hi1, hz1, wr_i64 (by omega) (by omega), wr_u64 (by omega) (by omega), Int.zero_add]
    rfl
theorem nat_Mul_gen {a b : List Int} (ha : inB LB a) (hb : inB LB b) (hl : a.length + b.length ≤ 800000000) : z36.F a b = some (lb (valB LB a * valB LB b).toNat) := by
  obtain ⟨s', r1, r2, r3, r4⟩ := natmul_outer (tot := a.length + b.length + 1) ha hb (by omega) rfl b.length 0 (List.replicate (a.length + b.length + 1) 0) (by omega) (by simp) (inB_replicate (by decide) _)
    (fun j _ => getD_replicate _ j) (by rw [valB_replicate]; simp [valB])
  have e0 : z36.l0 b (b.length : Int) a ((0 : Int), List.replicate (a.length + b.length + 1) 0) = some ((b.length : Int), s') := r1.lfp
  have e1 : wr .i64 (wr .i64 ((a.length : Int) + (b.length : Int)) + 1) = ((a.length + b.length + 1 : Nat) : Int) := by
    rw [wr_i64 (n := (a.length : Int) + (b.length : Int)) (by omega) (by omega), wr_i64 (by omega) (by omega)]; omega
  unfold z36.F
  rw [e1, if_pos (by omega), Int.toNat_natCast, e0]
  simp only [Option.bind_some]
  rw [nat_trim r2 (by show List.length _ ≤ _; omega), r4]
  rfl
theorem nat_Mul {m n : Nat} (hl : (lb m).length + (lb n).length ≤ 800000000) : z36.F (lb m) (lb n) = some (lb (m * n)) := by
  rw [nat_Mul_gen (toB_in bL m) (toB_in bL n) hl, valB_toB bL, valB_toB bL]
  congr 2
end Go.Proofs.YtgjncgiekniniaaGreatDoor.A
end
section
set_option linter.unusedVariables false
set_option linter.unusedSimpArgs false
namespace Go.Proofs.YtgjncgiekniniaaGreatDoor.A
open Go
theorem whole_Of (n : Nat) (b : Bool) : z17.F (lb n) b = some (lb n, b && decide (0 < n)) := by
  unfold z17.F
  cases b
  · rfl
  · rw [nat_Zero]
    simp only [cond_true, Bool.true_and, Option.bind_some]
    congr 2
    by_cases h : n = 0
    · subst h; rfl
    · rw [decide_eq_false h, decide_eq_true (by omega : 0 < n)]; rfl
theorem whole_Of' {z : Int} {b : Bool} (h : (b = true ∧ z ≤ 0) ∨ (b = false ∧ 0 ≤ z)) : z17.F (lb z.natAbs) b = some (lb z.natAbs, neg z) := by
  rw [whole_Of]
  congr 2
  rcases h with ⟨rfl, h⟩ | ⟨rfl, h⟩
  · rw [Bool.true_and]; exact decide_eq_decide.2 (by omega)
  · rw [Bool.false_and]; symm; exact decide_eq_false (by omega)
theorem whole_at {z : Int} {n : Nat} {b : Bool} (hn : n = z.natAbs) (h : (b = true ∧ z ≤ 0) ∨ (b = false ∧ 0 ≤ z)) : z17.F (lb n) b = some (lb z.natAbs, neg z) := by
  subst hn; exact whole_Of' h
theorem whole_From {z : Int} (h : -9223372036854775808 ≤ z ∧ z < 9223372036854775808) : z44.F z = some (lb z.natAbs, neg z) := by
  unfold z44.F
  by_cases hz : z < 0
  · have e : wr .u64 (0 - wr .u64 z) = ((z.natAbs : Nat) : Int) := by rw [wr_u64_mod z, wr_u64_mod]; omega
    rw [bif_t hz, e, nat_Of1 (by omega)]
    simp only [Option.bind_some, Int.toNat_natCast]
    rw [whole_Of' (z := z) (.inl ⟨rfl, by omega⟩)]; rfl
  · have e : wr .u64 z = ((z.natAbs : Nat) : Int) := by rw [wr_u64 (by omega) (by omega)]; omega
    rw [bif_f hz, e, nat_Of1 (by omega)]
    simp only [Option.bind_some, Int.toNat_natCast]
    rw [whole_Of' (z := z) (.inr ⟨rfl, by omega⟩)]; rfl
theorem whole_Neg (z : Int) : z28.F (lb z.natAbs) (neg z) = some (lb (-z).natAbs, neg (-z)) := by
  unfold z28.F
  rw [whole_at (z := -z) (by omega) (by by_cases h : z < 0; exact .inr ⟨by simp [neg, h], by omega⟩; exact .inl ⟨by simp [neg, h], by omega⟩)]
  rfl
theorem whole_Sign (z : Int) : z16.F (lb z.natAbs) (neg z) = some (cmpI z 0) := by
  unfold z16.F cmpI
  rw [nat_Zero]
  simp only [Option.bind_some]
  by_cases h0 : z = 0
  · subst h0; rfl
  · rw [bif_f (by omega)]
    by_cases h : z < 0
    · rw [bif_t h, if_pos h]
    · rw [bif_f h, if_neg h, if_neg h0]
theorem whole_Add {x y : Int} (hl : (lb x.natAbs).length + (lb y.natAbs).length ≤ 800000000) : z27.F (lb x.natAbs) (neg x) (lb y.natAbs) (neg y) = some (lb (x + y).natAbs, neg (x + y)) := by
  unfold z27.F
  by_cases hs : neg x = neg y
  · have hs' : (x < 0 ↔ y < 0) := by simpa [neg] using hs
    rw [bif_t hs, nat_Add hl]
    simp only [Option.bind_some]
    rw [whole_at (z := x + y) (by omega) (by by_cases hx : x < 0; exact .inl ⟨decide_eq_true hx, by omega⟩; exact .inr ⟨decide_eq_false hx, by omega⟩)]
    rfl
  · have hs' : ¬ (x < 0 ↔ y < 0) := by simpa [neg] using hs
    rw [bif_f hs, nat_Sub (by omega)]
    simp only [Option.bind_some]
    by_cases hc : y.natAbs ≤ x.natAbs
    · rw [if_pos hc]
      simp only [cond_true]
      rw [whole_at (z := x + y) (by omega) (by by_cases hx : x < 0; exact .inl ⟨decide_eq_true hx, by omega⟩; exact .inr ⟨decide_eq_false hx, by omega⟩)]
      rfl
    · rw [if_neg hc]
      simp only [cond_false]
      rw [nat_Sub (by omega), if_pos (by omega)]
      simp only [Option.bind_some]
      rw [whole_at (z := x + y) (by omega) (by by_cases hy : y < 0; exact .inl ⟨decide_eq_true hy, by omega⟩; exact .inr ⟨decide_eq_false hy, by omega⟩)]
      rfl
theorem whole_Sub {x y : Int} (hl : (lb x.natAbs).length + (lb y.natAbs).length ≤ 800000000) : z29.F (lb x.natAbs) (neg x) (lb y.natAbs) (neg y) = some (lb (x - y).natAbs, neg (x - y)) := by
  unfold z29.F
  rw [whole_Neg]
  simp only [Option.bind_some]
  rw [whole_Add (by rw [Int.natAbs_neg]; exact hl)]
  rfl
theorem whole_Cmp {x y : Int} (hl : (lb x.natAbs).length + (lb y.natAbs).length ≤ 800000000) : z30.F (lb x.natAbs) (neg x) (lb y.natAbs) (neg y) = some (cmpI x y) := by
  unfold z30.F
  rw [whole_Sub hl]
  simp only [Option.bind_some]
  rw [whole_Sign, cmpI_sub]
  rfl
theorem neg_mul (x y : Int) : ((!decide (neg x = neg y)) && decide (0 < x.natAbs * y.natAbs)) = neg (x * y) := by
  have h0 : 0 < x.natAbs * y.natAbs ↔ x ≠ 0 ∧ y ≠ 0 := by
    constructor
    · intro h; exact ⟨by rintro rfl; simp at h, by rintro rfl; simp at h⟩
    · rintro ⟨h1, h2⟩; exact Nat.mul_pos (by omega) (by omega)
  rw [Bool.eq_iff_iff]
  simp only [Bool.and_eq_true, Bool.not_eq_true', decide_eq_true_eq, decide_eq_false_iff_not, h0]
  rcases Int.lt_trichotomy x 0 with hx | hx | hx <;> rcases Int.lt_trichotomy y 0 with hy | hy | hy
  · have := Int.mul_pos_of_neg_of_neg hx hy; simp [hx, hy]; omega
  · subst hy; simp
  · have := Int.mul_neg_of_neg_of_pos hx hy; simp [hx]; omega
  · subst hx; simp
  · subst hx; simp
  · subst hx; simp
  · have := Int.mul_neg_of_pos_of_neg hx hy; simp [hy]; omega
  · subst hy; simp
  · have := Int.mul_pos hx hy; simp; omega
theorem whole_Mul {x y : Int} (hl : (lb x.natAbs).length + (lb y.natAbs).length ≤ 800000000) : z50.F (lb x.natAbs) (neg x) (lb y.natAbs) (neg y) = some (lb (x * y).natAbs, neg (x * y)) := by
  unfold z50.F
  rw [nat_Mul hl]
  simp only [Option.bind_some]
  rw [whole_Of, neg_mul, Int.natAbs_mul]
  rfl
end Go.Proofs.YtgjncgiekniniaaGreatDoor.A
end
section
set_option linter.unusedVariables false
set_option linter.unusedSimpArgs false
namespace Go.Proofs.YtgjncgiekniniaaGreatDoor.A
open Go
def sz (n : Nat) : Nat := (toB 10 n).length
theorem sz_lt (n : Nat) : n < 10 ^ sz n := toB_len_lt b10
theorem sz_le {n k : Nat} (h : n < 10 ^ k) : sz n ≤ k := toB_len_le b10 h
theorem sz_mono {m n : Nat} (h : m ≤ n) : sz m ≤ sz n := sz_le (Nat.lt_of_le_of_lt h (sz_lt n))
theorem lb_sz (n : Nat) : (lb n).length ≤ sz n := toB_len_le bL (Nat.lt_of_lt_of_le (sz_lt n) (Nat.pow_le_pow_left (by decide) _))
theorem dg_sz (n : Nat) : (dg n).length ≤ sz n := toB_len_le b4 (Nat.lt_of_lt_of_le (sz_lt n) (Nat.pow_le_pow_left (by decide) _))
theorem sz_mul (m n : Nat) : sz (m * n) ≤ sz m + sz n := sz_le (by rw [Nat.pow_add]; exact Nat.mul_lt_mul_of_lt_of_le (sz_lt m) (Nat.le_of_lt (sz_lt n)) (Nat.pow_pos (by decide)))
theorem sz_zero : sz 0 = 0 := by simp [sz, toB_zero]
theorem lb_zero : lb 0 = [] := toB_zero LB
theorem dg_zero : dg 0 = [] := toB_zero 10000
def isD (b : UInt8) : Bool := decide (48 ≤ b.toNat) && decide (b.toNat ≤ 57)
def digs (s : List UInt8) : Bool := s.all isD
theorem digs_iff {s : List UInt8} : digs s = true ↔ digits s := by simp [digs, digits, digit, isD]
theorem beq_u8 (b c : UInt8) : (b == c) = decide (b.toNat = c.toNat) := by
  rw [Bool.eq_iff_iff]; simp [UInt8.toNat_inj]
theorem has_digit (b : UInt8) : ([48, 49, 50, 51, 52, 53, 54, 55, 56, 57] : List UInt8).contains b = isD b := by
  rw [Bool.eq_iff_iff]
  simp only [List.contains_cons, List.contains_nil, beq_u8, isD]
  simp
  omega
theorem dropWhile_nil_iff {α : Type} {p : α → Bool} : ∀ {l : List α}, l.dropWhile p = [] ↔ ∀ x ∈ l, p x = true
  | [] => by simp
  | a :: l => by
    by_cases h : p a = true
    · rw [List.dropWhile_cons_of_pos h, dropWhile_nil_iff (l := l)]; simp [h]
    · rw [List.dropWhile_cons_of_neg h]; simp [h]
theorem trim_nil (s cs : List UInt8) : Lib.trimS s cs = [] ↔ ∀ b ∈ s, cs.contains b = true := by
  unfold Lib.trimS Lib.trimLeftS Lib.trimRightS
  rw [dropWhile_nil_iff]
  constructor
  · intro h
    cases he : s.reverse.dropWhile (cs.contains ·) with
    | nil =>
      rw [dropWhile_nil_iff] at he
      exact fun b hb => he b (List.mem_reverse.2 hb)
    | cons x l =>
      have h1 := List.head?_dropWhile_not (cs.contains ·) s.reverse
      rw [he] at h1
      have h2 := h x (by rw [he]; simp)
      simp only [List.head?_cons] at h1
      rw [h2] at h1; simp at h1
  · intro h
    have he : s.reverse.dropWhile (cs.contains ·) = [] := dropWhile_nil_iff.2 fun b hb => h b (List.mem_reverse.1 hb)
    rw [he]; simp
theorem trim_digits (s : List UInt8) (hs : s.length ≤ 9223372036854775807) : ∃ r, z3.F s [48, 49, 50, 51, 52, 53, 54, 55, 56, 57] = some r ∧ decide (r = []) = digs s := by
  unfold z3.F
  rw [if_pos ⟨hs, by decide, by decide⟩]
  refine ⟨_, rfl, ?_⟩
  rw [Bool.eq_iff_iff, decide_eq_true_iff, trim_nil, digs, List.all_eq_true]
  simp only [has_digit]
def numOK (s : List UInt8) : Bool := !decide (s = []) && digs s && !(decide (1 < s.length) && decide ((s.getD 0 0).toNat = 48))
def mDigits (s : List UInt8) : Nat × Int := if 4096 < s.length then (0, 7) else if numOK s then ((tv 0 s).toNat, 0) else (0, 5)
theorem decode_ascii {s : List UInt8} {i : Nat} (hi : i < s.length) (h : (s.getD i 0).toNat < 128) : Utf8.decode ⟨s.toArray⟩ i = ((s.getD i 0).toNat, 1) := by
  have e : (ByteArray.mk s.toArray).get! (i + 0) = s.getD i 0 := by
    show s.toArray[i + 0]! = _
    simp [List.getD, hi]
  unfold Utf8.decode
  simp only [e]
  rw [if_pos h]
theorem wr_i32 {n : Int} (h1 : -2147483648 ≤ n) (h2 : n < 2147483648) : wr .i32 n = n := by
  simp only [wr, IntKind.wrap, IntKind.signed, IntKind.bits]
  simp; omega
theorem parse_l2 {s : List UInt8} (hs : digits s) (hl : s.length ≤ 18) : ∀ (f i : Nat) (d : Int), i + f = s.length → 0 ≤ d ∧ d < (10 ^ i : Nat) →
    Runs (fun rec x => z37.l2P s rec some x) (d, i) (tv d (s.drop i), s.length)
  | 0, i, d, hf, _ => by
    have : i = s.length := by omega
    subst this
    refine .done fun rec => ?_
    unfold z37.l2P
    simp only
    rw [if_neg (by omega), List.drop_eq_nil_of_le (Nat.le_refl _)]
    rfl
  | f + 1, i, d, hf, hd => by
    have hi : i < s.length := by omega
    have hb := hs s[i] (List.getElem_mem hi)
    unfold digit at hb
    have eg : s.getD i 0 = s[i] := by simp [List.getD, hi]
    have hp : (10 ^ i : Nat) ≤ 10 ^ 17 := Nat.pow_le_pow_right (by decide) (by omega)
    have hp' : ((10 ^ i : Nat) : Int) ≤ 100000000000000000 := Int.ofNat_le.2 hp
    have ih := parse_l2 hs hl f (i + 1) (10 * d + (s[i].toNat : Int) - 48) (by omega) ⟨by omega, by rw [Nat.pow_succ, Int.natCast_mul]; omega⟩
    rw [List.drop_eq_getElem_cons hi]
    refine .step (fun rec => ?_) ih
    unfold z37.l2P
    simp only
    rw [if_pos hi, decode_ascii hi (by rw [eg]; omega), eg]
    simp only
    rw [wr_i32 (by omega) (by omega), wr_u64 (n := (s[i].toNat : Int) - 48) (by omega) (by omega), wr_u64 (n := 10 * d) (by omega) (by omega), wr_u64 (by omega) (by omega)]
    congr 2; omega
theorem parse_body {s : List UInt8} {n j k : Nat} (hs : digits s) (hk : k ≤ s.length) (hk' : k ≤ 18) (hn : n < 10 ^ j) (hj : j ≤ 8192) {R : Type} (rec done : (List UInt8 × Bool × List Int) → Option R) :
    z37.j5011a rec done (k : Int) s (lb n) = rec (s.drop k, false, lb (n * 1000000000000000000 + (tv 0 (s.take k)).toNat)) := by
  have hds : digits (s.take k) := fun b hb => hs b (List.mem_of_mem_take hb)
  have hlen : (s.take k).length = k := by rw [List.length_take]; omega
  have htb := tv_bound hds
  rw [hlen] at htb
  have hp : (10 ^ k : Nat) ≤ 10 ^ 18 := Nat.pow_le_pow_right (by decide) hk'
  have hp' : ((10 ^ k : Nat) : Int) ≤ 1000000000000000000 := Int.ofNat_le.2 hp
  have r := parse_l2 hds (by omega) (s.take k).length 0 0 (by omega) ⟨Int.le_refl 0, by decide⟩
  have er : z37.l2a (s.take k) ((0 : Int), 0) = some (tv 0 (s.take k), (s.take k).length) := r.lfp
  obtain ⟨U, hU⟩ : ∃ U : Nat, 1000000000000000000 = U := ⟨_, rfl⟩
  have hU' : Int.toNat 1000000000000000000 = U := by omega
  have hUs : sz U ≤ 19 := sz_le (by omega)
  have hsn := Nat.le_trans (lb_sz n) (sz_le hn)
  have hsu := Nat.le_trans (lb_sz U) hUs
  have hsm := Nat.le_trans (lb_sz (n * U)) (Nat.le_trans (sz_mul n U) (Nat.add_le_add (sz_le hn) hUs))
  have hst := Nat.le_trans (lb_sz (tv 0 (s.take k)).toNat) (sz_le (k := 18) (by omega))
  have e1 : z34.F [(1000000000000000000 : Int)] = some (lb U) := by rw [nat_Of1 (by omega), hU']
  have e2 : z34.F [tv 0 (s.take k)] = some (lb (tv 0 (s.take k)).toNat) := nat_Of1 (by omega)
  have e3 : z36.F (lb n) (lb U) = some (lb (n * U)) := nat_Mul (by omega)
  have e4 : z20.F (lb (n * U)) (lb (tv 0 (s.take k)).toNat) = some (lb (n * U + (tv 0 (s.take k)).toNat)) := nat_Add (by omega)
  have e5 : (0 : Int) ≤ (k : Int) ∧ (k : Int) ≤ ((s.length : Nat) : Int) := by omega
  rw [hU]
  unfold z37.j5011a
  rw [if_pos e5, Int.toNat_natCast, er]
  simp only [Option.bind_some]
  rw [e1]
  simp only [Option.bind_some]
  rw [e3]
  simp only [Option.bind_some]
  rw [e2]
  simp only [Option.bind_some]
  rw [e4]
  simp only [Option.bind_some]
  rw [if_pos e5]
theorem parse_loop : ∀ (m : Nat) (s : List UInt8), s.length ≤ m → digits s → ∀ (n j : Nat) (first : Bool), n < 10 ^ j → j + s.length ≤ 8192 → ((first = true ∧ n = 0) ∨ (first = false ∧ s.length % 18 = 0)) →
    ∃ f', Runs (fun rec x => z37.l0aaP rec some x) (s, first, lb n) ([], f', lb (tv n s).toNat)
  | 0, s, hm, hs, n, j, first, hn, hj, hf => by
    have : s = [] := List.length_eq_zero_iff.1 (by omega)
    subst this
    refine ⟨first, .done fun rec => ?_⟩
    simp [z37.l0aaP, tv]
  | m + 1, s, hm, hs, n, j, first, hn, hj, hf => by
    by_cases hne : s = []
    · subst hne
      refine ⟨first, .done fun rec => ?_⟩
      simp [z37.l0aaP, tv]
    · have hpos : 0 < s.length := List.length_pos_iff.2 hne
      have key : ∃ k : Nat, 0 < k ∧ k ≤ s.length ∧ k ≤ 18 ∧ (n = 0 ∨ k = 18) ∧ (s.length - k) % 18 = 0 ∧
          ∀ rec, z37.l0aaP rec some (s, first, lb n) = z37.j5011a rec some (k : Int) s (lb n) := by
        have hd : (!decide (s = ([] : List UInt8))) = true := by rw [decide_eq_false hne]; rfl
        rcases hf with ⟨rfl, hn0⟩ | ⟨rfl, h18⟩
        · have em : Int.tmod (s.length : Int) 18 = ((s.length % 18 : Nat) : Int) := by rw [tmod_emod (by omega)]; rfl
          by_cases h0 : s.length % 18 = 0
          · refine ⟨18, by omega, by omega, by omega, .inr rfl, by omega, fun rec => ?_⟩
            unfold z37.l0aaP
            simp only [hd, Bool.not_true, cond_true, cond_false]
            rw [em, bif_t (by omega)]; rfl
          · refine ⟨s.length % 18, by omega, Nat.mod_le _ _, by omega, .inl hn0, by omega, fun rec => ?_⟩
            unfold z37.l0aaP
            simp only [hd, Bool.not_true, cond_true, cond_false]
            rw [em, bif_f (by omega)]
        · refine ⟨18, by omega, by omega, by omega, .inr rfl, by omega, fun rec => ?_⟩
          unfold z37.l0aaP
          simp only [hd, Bool.not_false, cond_true]
          rfl
      obtain ⟨k, k0, k1, k2, k3, k4, k5⟩ := key
      have hds : digits (s.take k) := fun b hb => hs b (List.mem_of_mem_take hb)
      have hdd : digits (s.drop k) := fun b hb => hs b (List.mem_of_mem_drop hb)
      have hlen : (s.take k).length = k := by rw [List.length_take]; omega
      have htb := tv_bound hds
      rw [hlen] at htb
      have htv : tv n (s.take k) = ((n * 1000000000000000000 + (tv 0 (s.take k)).toNat : Nat) : Int) := by
        rw [tv_acc, hlen]
        rcases k3 with h | h
        · subst h; simp; omega
        · subst h
          have : ((10 ^ 18 : Nat) : Int) = 1000000000000000000 := rfl
          rw [this]; omega
      have hn' : n * 1000000000000000000 + (tv 0 (s.take k)).toNat < 10 ^ (j + k) := by
        have hp0 : 0 < 10 ^ j := Nat.pow_pos (by decide)
        rcases k3 with h | h
        · subst h
          have : 10 ^ k ≤ 10 ^ (j + k) := Nat.pow_le_pow_right (by decide) (by omega)
          omega
        · subst h
          have e18 : (10 ^ (j + 18) : Nat) = 10 ^ j * 1000000000000000000 := by rw [Nat.pow_add]
          have e18' : ((10 ^ 18 : Nat) : Int) = 1000000000000000000 := rfl
          rw [e18]
          have : (n + 1) * 1000000000000000000 ≤ 10 ^ j * 1000000000000000000 := Nat.mul_le_mul_right _ hn
          omega
      obtain ⟨f', r⟩ := parse_loop m (s.drop k) (by rw [List.length_drop]; omega) hdd (n * 1000000000000000000 + (tv 0 (s.take k)).toNat) (j + k) false hn' (by rw [List.length_drop]; omega) (.inr ⟨rfl, by rw [List.length_drop]; exact k4⟩)
      refine ⟨f', .step (y := (s.drop k, false, lb (n * 1000000000000000000 + (tv 0 (s.take k)).toNat))) (fun rec => ?_) ?_⟩
      · rw [k5, parse_body hs k1 k2 hn (by omega)]
      · have e : tv n s = tv ((n * 1000000000000000000 + (tv 0 (s.take k)).toNat : Nat) : Int) (s.drop k) := by
          conv => lhs; rw [← List.take_append_drop k s]
          rw [tv_append, htv]
        rw [e]; exact r
theorem digits_Parse (s : List UInt8) : z37.F s = some (lb (mDigits s).1, (mDigits s).2) := by
  unfold z37.F mDigits
  by_cases h1 : 4096 < s.length
  · rw [bif_t (by omega), if_pos h1, lb_zero]
  · rw [bif_f (by omega), if_neg h1]
    by_cases h2 : s = []
    · subst h2; rw [bif_t rfl]; simp [numOK, lb_zero]
    · rw [bif_f h2]
      obtain ⟨r, t1, t2⟩ := trim_digits s (by omega)
      rw [t1]
      simp only [Option.bind_some]
      rw [t2]
      cases hd : digs s with
      | false => simp [numOK, hd, lb_zero]
      | true =>
        have hds := digs_iff.1 hd
        obtain ⟨f', r⟩ := parse_loop s.length s (Nat.le_refl _) hds 0 0 true (by decide) (by omega) (.inl ⟨rfl, rfl⟩)
        rw [lb_zero] at r
        have er : z37.l0aa (s, true, []) = some ([], f', lb (tv ((0 : Nat) : Int) s).toNat) := r.lfp
        simp only [Bool.not_true, cond_false]
        rw [er]
        have hpos : 0 < s.length := List.length_pos_iff.2 h2
        by_cases h3 : 1 < s.length
        · rw [bif_t (by omega), if_pos (by omega)]
          by_cases h4 : (s.getD 0 0).toNat = 48
          · rw [bif_t (by omega)]
            have : numOK s = false := by simp [numOK, h3]; intro _ _ ; simpa [List.getD] using h4
            rw [this]; simp [lb_zero]
          · rw [bif_f (by omega)]
            have : numOK s = true := by simp only [numOK, decide_eq_false h2, hd, decide_eq_false h4]; simp
            rw [this]; rfl
        · rw [bif_f (by omega)]
          have : numOK s = true := by simp only [numOK, decide_eq_false h2, hd, decide_eq_false h3]; simp
          rw [this]; rfl
theorem and_one (a : Int) (h0 : 0 ≤ a) (h1 : a < 9223372036854775808) : wr .i64 ((BitVec.ofInt (IntKind.bits .i64) a &&& BitVec.ofInt (IntKind.bits .i64) (1 : Int)).toNat : Int) = a % 2 := by
  have e : (BitVec.ofInt (IntKind.bits .i64) a &&& BitVec.ofInt (IntKind.bits .i64) (1 : Int)).toNat = (a % 2).toNat := by
    rw [BitVec.toNat_and]
    have e1 : (BitVec.ofInt (IntKind.bits .i64) (1 : Int)).toNat = 2 ^ 1 - 1 := rfl
    have e2 : (BitVec.ofInt (IntKind.bits .i64) a).toNat = (a % 18446744073709551616).toNat := by
      rw [BitVec.toNat_ofInt]; rfl
    rw [e1, Nat.and_two_pow_sub_one_eq_mod, e2]
    omega
  rw [e, wr_i64 (by omega) (by omega)]; omega
theorem shr1 (a : Int) : Int.fdiv a (2 ^ (min 1 (64 : Nat))) = a / 2 := by
  rw [Int.fdiv_eq_ediv_of_nonneg _ (by decide)]; rfl
theorem power_loop : ∀ (f t n out : Nat), t ≤ f → t < 9223372036854775808 → sz out + t * sz n ≤ 800000000 →
    ∃ n', Runs (fun rec x => z39.l0P rec some x) ((t : Int), lb n, lb out) ((0 : Int), n', lb (out * n ^ t))
  | 0, t, n, out, hf, ht, hb => by
    have : t = 0 := by omega
    subst this
    refine ⟨lb n, .done fun rec => ?_⟩
    simp [z39.l0P]
  | f + 1, t, n, out, hf, ht, hb => by
    rcases Nat.eq_zero_or_pos t with h0 | h0
    · subst h0
      refine ⟨lb n, .done fun rec => ?_⟩
      simp [z39.l0P]
    · have hn := lb_sz n
      have ho := lb_sz out
      have hsq := sz_mul n n
      have hon := sz_mul out n
      have e2 : (t : Int) / 2 = ((t / 2 : Nat) : Int) := by omega
      have em : (t : Int) % 2 = ((t % 2 : Nat) : Int) := by omega
      have hq : t * sz n = 2 * (t / 2 * sz n) + t % 2 * sz n := by
        conv => lhs; rw [← Nat.div_add_mod t 2]
        rw [Nat.add_mul, Nat.mul_assoc]
      have hq2 : t / 2 * sz (n * n) ≤ 2 * (t / 2 * sz n) := by
        have := Nat.mul_le_mul_left (t / 2) hsq
        have e : t / 2 * (sz n + sz n) = 2 * (t / 2 * sz n) := by rw [Nat.mul_add]; omega
        omega
      have hpow : n ^ t = n ^ (t % 2) * (n * n) ^ (t / 2) := by
        rw [← Nat.pow_two, ← Nat.pow_mul, ← Nat.pow_add]; congr 1; omega
      by_cases hodd : t % 2 = 1
      · rw [hodd, Nat.one_mul] at hq
        by_cases h1 : 1 < t
        · have hge : 1 ≤ t / 2 := by omega
          have hge' : sz n ≤ t / 2 * sz n := Nat.le_mul_of_pos_left _ hge
          obtain ⟨n', r⟩ := power_loop f (t / 2) (n * n) (out * n) (by omega) (by omega) (by omega)
          refine ⟨n', .step (fun rec => ?_) (by rw [hpow, hodd, Nat.pow_one, ← Nat.mul_assoc]; exact r)⟩
          unfold z39.l0P
          simp only
          rw [bif_t (by omega), and_one _ (by omega) (by omega), em, hodd, bif_t (by omega), nat_Mul (by omega)]
          simp only [Option.bind_some]
          rw [bif_t (by omega), nat_Mul (by omega), shr1, e2]
          rfl
        · have ht1 : t = 1 := by omega
          subst ht1
          obtain ⟨n', r⟩ := power_loop f 0 n (out * n) (by omega) (by omega) (by omega)
          refine ⟨n', .step (fun rec => ?_) (by simpa using r)⟩
          unfold z39.l0P
          simp only
          rw [bif_t (by omega), and_one _ (by omega) (by omega), bif_t (by decide), nat_Mul (by omega)]
          simp only [Option.bind_some]
          rw [bif_f (by omega), shr1]
          rfl
      · have h2 : t % 2 = 0 := by omega
        rw [h2, Nat.zero_mul, Nat.add_zero] at hq
        have hge : 1 ≤ t / 2 := by omega
        have hge' : sz n ≤ t / 2 * sz n := Nat.le_mul_of_pos_left _ hge
        obtain ⟨n', r⟩ := power_loop f (t / 2) (n * n) out (by omega) (by omega) (by omega)
        refine ⟨n', .step (fun rec => ?_) (by rw [hpow, h2, Nat.pow_zero, Nat.one_mul]; exact r)⟩
        unfold z39.l0P
        simp only
        rw [bif_t (by omega), and_one _ (by omega) (by omega), em, h2, bif_f (by omega), bif_t (by omega), nat_Mul (by omega)]
        simp only [Option.bind_some]
        rw [shr1, e2]
theorem digits_power {n t : Nat} (ht : t < 9223372036854775808) (h : t * sz n ≤ 700000000) : z39.F (lb n) (t : Int) = some (lb (n ^ t)) := by
  have h1 : sz 1 ≤ 1 := sz_le (by decide)
  obtain ⟨n', r⟩ := power_loop t t n 1 (Nat.le_refl _) ht (by omega)
  have e : z39.l0 ((t : Int), lb n, lb 1) = some ((0 : Int), n', lb (1 * n ^ t)) := r.lfp
  unfold z39.F
  rw [nat_Of1 (by omega)]
  simp only [Option.bind_some]
  rw [show Int.toNat 1 = 1 from rfl, e, Nat.one_mul]
  rfl
theorem digits_Ten {t : Nat} (ht : t ≤ 4096) : z40.F (t : Int) = some (lb (10 ^ t), 0) := by
  have h1 : sz 10 ≤ 2 := sz_le (by decide)
  have h2 := Nat.mul_le_mul_left t h1
  unfold z40.F
  rw [bif_f (by omega), bif_f (by omega), nat_Of1 (by omega)]
  simp only [Option.bind_some]
  rw [show Int.toNat 10 = 10 from rfl, digits_power (by omega) (by omega)]
  rfl
end Go.Proofs.YtgjncgiekniniaaGreatDoor.A
end
section
set_option linter.unusedVariables false
set_option linter.unusedSimpArgs false
namespace Go.Proofs.YtgjncgiekniniaaGreatDoor.A
open Go
def DivOK (a b : Nat) : Prop := z61.F (lb a) (lb b) = some (lb (a / b), lb (a % b), 0)
def DivTo (M : Nat) : Prop := ∀ x y, x ≤ M → y ≤ M → 0 < y → DivOK x y
theorem cmpI_lt0 {m n : Int} : cmpI m n < 0 ↔ m < n := by unfold cmpI; split <;> (try split) <;> omega
theorem cmpI_gt0 {m n : Int} : cmpI m n > 0 ↔ n < m := by unfold cmpI; split <;> (try split) <;> omega
theorem cmpI_eq0 {m n : Int} : cmpI m n = 0 ↔ m = n := by unfold cmpI; split <;> (try split) <;> omega
theorem lb_one {a : Nat} (h0 : 0 < a) (h : a < 18446744073709551616) : lb a = [(a : Int)] := by
  show toB LB a = _
  rw [toB_pos bL h0, Nat.mod_eq_of_lt h, Nat.div_eq_of_lt h, toB_zero]
theorem div64_small {a b : Int} (ha : 0 ≤ a ∧ a < 18446744073709551616) (hb : 0 < b) : z59.F 0 a b = some (a / b, a % b) := by
  unfold z59.F
  rw [bif_f (by omega), bif_f (by omega), bif_t rfl, if_neg (by omega), if_neg (by omega), tdiv_ediv ha.1, tmod_emod ha.1]
  have h1 := Int.ediv_nonneg ha.1 (Int.le_of_lt hb)
  have h2 := Int.ediv_le_self b ha.1
  rw [wr_u64 h1 (by omega)]
theorem quot_by_small {a b : Int} (ha : 0 ≤ a ∧ a < 18446744073709551616) (hb : 0 < b) : z60.F [a] b = some ([a / b], a % b) := by
  have h0 : z60.l0 [a] b ((0 : Int), (0 : Int), [(0 : Int)]) = some (a % b, (-1 : Int), [a / b]) := by
    refine (Runs.step (y := (a % b, (-1 : Int), [a / b])) (fun rec => ?_) (Runs.done fun rec => ?_) : Runs (fun rec x => z60.l0P [a] b rec some x) _ _).lfp
    · unfold z60.l0P
      simp only [List.length_singleton]
      rw [bif_t (by omega), if_pos (by omega), show [a].getD (Int.toNat 0) 0 = a from rfl, div64_small ha hb]
      rfl
    · unfold z60.l0P
      simp only
      rw [bif_f (by omega)]
  unfold z60.F
  simp only [List.length_singleton]
  rw [if_pos (by omega)]
  show ((z60.l0 [a] b ((0 : Int), wr .i64 0, [(0 : Int)])).bind _) = _
  rw [wr_i64 (by omega) (by omega), h0]
  rfl
theorem DivOK_lt {a b : Nat} (h : a < b) (hs : (lb a).length ≤ 900000000) : DivOK a b := by
  unfold DivOK z61.F
  rw [nat_Zero]
  simp only [Option.bind_some]
  rw [bif_f (by omega), nat_Cmp hs]
  simp only [Option.bind_some]
  have : cmpI (a : Int) b < 0 := by unfold cmpI; rw [if_pos (by omega)]; decide
  rw [bif_t this, Nat.div_eq_of_lt h, Nat.mod_eq_of_lt h, lb_zero]
theorem DivOK_small {a b : Nat} (ha : a < 18446744073709551616) (hb : 0 < b) : DivOK a b := by
  have hl : (lb a).length ≤ 1 := toB_len_le bL (by simpa using ha)
  rcases Nat.lt_or_ge a b with h | h
  · exact DivOK_lt h (by omega)
  · unfold DivOK z61.F
    rw [nat_Zero]
    simp only [Option.bind_some]
    rw [bif_f (by omega), nat_Cmp (by omega)]
    simp only [Option.bind_some]
    have : ¬ cmpI (a : Int) b < 0 := by unfold cmpI; rw [if_neg (by omega)]; split <;> omega
    rw [bif_f this, lb_one (by omega) ha, lb_one hb (by omega), nat_Limbs (by show List.length _ ≤ _; simp), nat_Limbs (by show List.length _ ≤ _; simp)]
    simp only [Option.bind_some, List.length_singleton]
    rw [bif_t (by omega), if_pos (by omega), show [(b : Int)].getD 0 0 = b from rfl, quot_by_small (by omega) (by omega)]
    simp only [Option.bind_some]
    have b1 : a / b ≤ a := Nat.div_le_self a b
    have b2 : a % b ≤ a := Nat.mod_le a b
    obtain ⟨q, hq⟩ : ∃ q, a / b = q := ⟨_, rfl⟩
    obtain ⟨m, hm⟩ : ∃ m, a % b = m := ⟨_, rfl⟩
    have e1 : ((a : Int) / b) = (q : Int) := by rw [← hq]; rfl
    have e2 : ((a : Int) % b) = (m : Int) := by rw [← hm]; rfl
    rw [hq] at b1 ⊢
    rw [hm] at b2 ⊢
    rw [e1, e2, nat_Of1 (by omega)]
    simp only [Option.bind_some]
    rw [nat_Of1 (by omega)]
    rfl
theorem quot_Gcd {M : Nat} (hD : DivTo M) {a b : Nat} (ha : a ≤ M) (hb : b ≤ M) : z62.F (lb a) (lb b) = some (lb (Nat.gcd a b)) := by
  have key : ∀ (f a b : Nat), b < f → a ≤ M → b ≤ M → Runs (fun rec x => z62.l0P rec some x) (lb a, lb b) (lb (Nat.gcd a b), []) := by
    intro f
    induction f with
    | zero => intro a b h; omega
    | succ f ih =>
      intro a b h ha hb
      rcases Nat.eq_zero_or_pos b with h0 | h0
      · subst h0
        refine .done fun rec => ?_
        unfold z62.l0P
        simp only [nat_Zero, Option.bind_some]
        rw [Nat.gcd_zero_right, lb_zero]; rfl
      · have hm := Nat.mod_lt a h0
        have hmm := Nat.mod_le a b
        have e : Nat.gcd a b = Nat.gcd b (a % b) := by rw [Nat.gcd_comm, Nat.gcd_rec, Nat.gcd_comm]
        rw [e]
        refine .step (fun rec => ?_) (ih b (a % b) (by omega) hb (by omega))
        unfold z62.l0P
        simp only [nat_Zero, Option.bind_some]
        rw [decide_eq_false (by omega), Bool.not_false, cond_true, hD a b ha hb h0]
        rfl
  unfold z62.F
  have e : z62.l0 (lb a, lb b) = some (lb (Nat.gcd a b), []) := (key (b + 1) a b (by omega) ha hb).lfp
  rw [e]; rfl
theorem cmpI_neg (z : Int) : decide (cmpI z 0 < 0) = neg z := by
  unfold cmpI; apply decide_eq_decide.2; split <;> (try split) <;> omega
theorem abs_ediv {z : Int} {g : Nat} (h : g ∣ z.natAbs) (h0 : 0 < g) : (z / (g : Int)).natAbs = z.natAbs / g ∧ (z / (g : Int) < 0 ↔ z < 0) := by
  obtain ⟨k, hk⟩ := Int.ofNat_dvd_left.2 h
  subst hk
  have hg : (g : Int) ≠ 0 := by omega
  rw [Int.mul_ediv_cancel_left _ hg, Int.natAbs_mul, Int.natAbs_natCast, Nat.mul_div_cancel_left _ h0]
  refine ⟨rfl, ?_⟩
  constructor
  · intro h; exact Int.mul_neg_of_pos_of_neg (by omega) h
  · intro h
    rcases Int.lt_or_le k 0 with h' | h'
    · exact h'
    · have := Int.mul_nonneg (show (0 : Int) ≤ g by omega) h'; omega
theorem frac_made {M : Nat} (hD : DivTo M) {num : Int} {den : Nat} (h0 : 0 < den) (hn : num.natAbs ≤ M) (hd : den ≤ M) (hs : sz den ≤ 700000000) :
    z63.F (lb num.natAbs) (neg num) (lb den) = some (lb (mkRat num den).num.natAbs, neg (mkRat num den).num, lb ((mkRat num den).den - 1)) := by
  have hg : 0 < Nat.gcd num.natAbs den := Nat.gcd_pos_of_pos_right _ h0
  have hgd : Nat.gcd num.natAbs den ≤ den := Nat.gcd_le_right _ h0
  have hdv := Nat.gcd_dvd_right num.natAbs den
  have hdv2 := Nat.gcd_dvd_left num.natAbs den
  have hp : 0 < den / Nat.gcd num.natAbs den := Nat.div_pos hgd hg
  have hle : den / Nat.gcd num.natAbs den ≤ den := Nat.div_le_self _ _
  have hsz := Nat.le_trans (lb_sz _) (Nat.le_trans (sz_mono hle) hs)
  obtain ⟨q1, q2⟩ := abs_ediv hdv2 hg
  unfold z63.F z55.F
  simp only [Option.bind_some]
  rw [quot_Gcd hD hn hd]
  simp only [Option.bind_some]
  rw [Rat.num_mkRat, Rat.den_mkRat, if_neg (by omega), if_neg (by omega), Nat.gcd_comm den]
  generalize Nat.gcd num.natAbs den = g at *
  have d1 : z61.F (lb num.natAbs) (lb g) = _ := hD _ _ hn (by omega) hg
  have d2 : z61.F (lb den) (lb g) = _ := hD _ _ hd (by omega) hg
  rw [d1]
  simp only [Option.bind_some]
  rw [d2]
  simp only [Option.bind_some]
  rw [nat_Of1 (by omega)]
  simp only [Option.bind_some]
  rw [show Int.toNat 1 = 1 from rfl, nat_Sub (by omega), if_pos (by omega)]
  simp only [Option.bind_some]
  rw [whole_Sign]
  simp only [Option.bind_some]
  rw [cmpI_neg, whole_at (z := num / (g : Int)) q1.symm (by
    have hz : num / (g : Int) < 0 ↔ num < 0 := q2
    by_cases h : num < 0
    · exact .inl ⟨decide_eq_true h, by omega⟩
    · exact .inr ⟨decide_eq_false h, by omega⟩)]
  rfl
abbrev fr (q : Rat) : List Int × Bool × List Int := (lb q.num.natAbs, neg q.num, lb (q.den - 1))
theorem frac_Of {M : Nat} (hD : DivTo M) {num den : Int} (h0 : den ≠ 0) (hn : num.natAbs ≤ M) (hd : den.natAbs ≤ M) (hs : sz den.natAbs ≤ 700000000) :
    z64.F (lb num.natAbs) (neg num) (lb den.natAbs) (neg den) = some ((fr (Rat.divInt num den)).1, (fr (Rat.divInt num den)).2.1, (fr (Rat.divInt num den)).2.2, 0) := by
  have hc : cmpI den 0 = if den < 0 then -1 else 1 := by
    unfold cmpI
    by_cases h : den < 0
    · rw [if_pos h, if_pos h]
    · rw [if_neg h, if_neg h, if_neg h0]
  unfold z64.F
  rw [whole_Sign]
  simp only [Option.bind_some]
  rw [hc]
  by_cases h : den < 0
  · have e : Rat.divInt num den = mkRat (-num) den.natAbs := by
      have : den = -((den.natAbs : Nat) : Int) := by omega
      conv => lhs; rw [this]
      rw [Rat.divInt_neg', Rat.divInt_ofNat]
    rw [if_pos h, bif_f (by decide), bif_t rfl, whole_Neg]
    simp only [Option.bind_some]
    unfold z64.j4 z55.F
    simp only [Option.bind_some]
    rw [frac_made hD (by omega) (by omega) hd hs, e]
    rfl
  · have e : Rat.divInt num den = mkRat num den.natAbs := by
      have : den = ((den.natAbs : Nat) : Int) := by omega
      conv => lhs; rw [this]
      rw [Rat.divInt_ofNat]
    rw [if_neg h, bif_f (by decide), bif_f (by decide)]
    unfold z64.j4 z55.F
    simp only [Option.bind_some]
    rw [frac_made hD (by omega) hn hd hs, e]
    rfl
theorem frac_Den (q : Rat) (a : List Int) (b : Bool) (hs : sz q.den ≤ 700000000) : z66.F a b (lb (q.den - 1)) = some (lb q.den) := by
  have h1 : sz 1 ≤ 1 := sz_le (by decide)
  have h2 := Nat.le_trans (lb_sz (q.den - 1)) (Nat.le_trans (sz_mono (Nat.sub_le _ _)) hs)
  have h3 := Nat.le_trans (lb_sz 1) h1
  unfold z66.F
  rw [nat_Of1 (by omega)]
  simp only [Option.bind_some]
  rw [show Int.toNat 1 = 1 from rfl, nat_Add (by omega), Nat.sub_add_cancel q.den_pos]
  rfl
theorem frac_den (q : Rat) (a : List Int) (b : Bool) (hs : sz q.den ≤ 700000000) : z67.F a b (lb (q.den - 1)) = some (lb (q.den : Int).natAbs, neg (q.den : Int)) := by
  unfold z67.F
  rw [frac_Den q a b hs]
  simp only [Option.bind_some]
  rw [whole_at (z := (q.den : Int)) (by omega) (.inr ⟨rfl, by omega⟩)]
  rfl
theorem rat_div (q r : Rat) : q / r = Rat.divInt (q.num * r.den) (q.den * r.num) := by
  rw [Rat.div_def, Rat.inv_def]
  conv => lhs; rw [← Rat.num_divInt_den q, Rat.divInt_mul_divInt]
theorem frac_Quo {M : Nat} (hD : DivTo M) {q r : Rat} (h0 : r ≠ 0) (hn : (q.num * r.den).natAbs ≤ M) (hd : (q.den * r.num).natAbs ≤ M) (hs : sz q.num.natAbs + sz r.den ≤ 600000000) (hs' : sz r.num.natAbs + sz q.den ≤ 600000000) :
    z68.F (lb q.num.natAbs) (neg q.num) (lb (q.den - 1)) (lb r.num.natAbs) (neg r.num) (lb (r.den - 1)) = some ((fr (q / r)).1, (fr (q / r)).2.1, (fr (q / r)).2.2, 0) := by
  have e1 : sz (r.den : Int).natAbs = sz r.den := rfl
  have e2 : sz (q.den : Int).natAbs = sz q.den := rfl
  have l1 := lb_sz q.num.natAbs
  have l2 := lb_sz (r.den : Int).natAbs
  have l3 := lb_sz (q.den : Int).natAbs
  have l4 := lb_sz r.num.natAbs
  have hr : r.num ≠ 0 := fun h => h0 (Rat.num_eq_zero.1 h)
  have hqd := q.den_nz
  have m1 := sz_mul (q.den : Int).natAbs r.num.natAbs
  rw [← Int.natAbs_mul] at m1
  unfold z68.F
  rw [frac_den r _ _ (by omega)]
  simp only [Option.bind_some]
  rw [whole_Mul (by omega)]
  simp only [Option.bind_some]
  rw [frac_den q _ _ (by omega)]
  simp only [Option.bind_some]
  rw [whole_Mul (by omega)]
  simp only [Option.bind_some]
  rw [frac_Of hD (Int.mul_ne_zero (by omega) hr) hn hd (by show sz _ ≤ _; omega), rat_div]
  rfl
end Go.Proofs.YtgjncgiekniniaaGreatDoor.A
end
