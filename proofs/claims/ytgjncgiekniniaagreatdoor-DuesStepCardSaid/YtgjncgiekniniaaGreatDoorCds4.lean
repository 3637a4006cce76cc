/- Part 4 of the proof of DuesStep.card. -/
import Derived.Test.YtgjncgiekniniaaGreatDoorCds3
import Derived.Test.YtgjncgiekniniaaGreatDoorRows
import Derived.WalkKit
import Derived.ProofKit
import Derived.OpenShut
import Derived.Carry
import Derived.ChangeSame
import Derived.Deep.Slices
section
set_option linter.unusedVariables false
set_option linter.unusedSimpArgs false
set_option maxRecDepth 100000
namespace Go.Proofs.YtgjncgiekniniaaGreatDoor.A
open Go
noncomputable section
theorem tab_ok : tab.check Tryz.prog = true := by kernel_rfl
def tabC : Ctx where
  T := tab
  draws := fun _ _ => ([], 0)
  call := fun _ _ => none
  inl := fun _ => none
  rank := fun _ => 0
  prim := fun _ => none
  clone := fun _ => none
  keep := fun _ _ => ([], [], [])
  keepE := fun _ _ => ([], [], [])
  keepR := fun _ _ => ([], [], [])
  unroll := fun _ _ => 0
  L := fun _ _ _ _ => none
theorem mixed_ok : Tryz.prog.follows .mixedOrders = true := by kernel_rfl
def z6.l2un : List Leaf → Option ((List UInt8) × Int × Int)
  | [.li _, .s _, .s s2003, .i _, .i d2005, .i k2006] => some (s2003, d2005, k2006)
  | _ => none
def z6.l2uo0 : List Leaf → Option ((List UInt8) × Int × Int)
  | [.li _, .s _, .s y0, .i _, .i y1, .i y2] => some (y0, y1, y2)
  | _ => none
def z6.l2uo (p : X × Env × Store) : Option ((List UInt8) × Int × Int) := (matchSt z6.l2so0 p.2).bind z6.l2uo0
def z6.l2enc (a2001 : List Int) (t2002 : List UInt8) (i2004 : Int) (x' : ((List UInt8) × Int × Int)) : Env × Store := fillSt z6.l2sh [.li a2001, .s t2002, .s x'.1, .i i2004, .i x'.2.1, .i x'.2.2]
theorem z6.l2pk {ls : List Leaf} {p : LPack} (h : z6.l2pack ls = some p) : ∃ a2001 t2002 s2003 i2004 d2005 k2006, ls = [.li a2001, .s t2002, .s s2003, .i i2004, .i d2005, .i k2006] ∧ p = .one _ (z6.l2 (s2003, d2005, k2006)) (z6.l2out0 a2001 t2002 s2003 i2004 d2005 k2006) := by
  unfold z6.l2pack at h
  split at h
  case h_2 => simp at h
  simp only [Option.some.injEq] at h
  exact ⟨_, _, _, _, _, _, rfl, h.symm⟩
theorem z6.l2_sound (hI : InlOK Tryz.prog z6.C fun R => z6.C.inlK 6) (st : Env × Store) (p : LPack) (h : (matchSt z6.l2sh st).bind z6.l2pack = some p) : p.sound (z6.C.loopG (z6.C.inlK 6) 102 2 0 (loopAt 2 (ifun Tryz.f102).body) st.2.length) st := by
  obtain ⟨ls, h1, h2⟩ := Option.bind_eq_some_iff.1 h
  have h1 := matchSt_fill h1
  obtain ⟨a2001, t2002, s2003, i2004, d2005, k2006, rfl, rfl⟩ := z6.l2pk h2
  have hst : st = z6.l2enc a2001 t2002 i2004 (s2003, d2005, k2006) := h1.symm.trans (by kernel_rfl)
  have hn : (z6.l2enc a2001 t2002 i2004 (s2003, d2005, k2006)).2.length = 0 := by kernel_rfl
  rw [hst, hn]
  intro o ho
  have key := lfp_sound (I := fun R => z6.C.inlK 6) hI (σ := ((List UInt8) × Int × Int)) (τ := ((List UInt8) × Int × Int)) (fid := 102) (id := 2) (base := 0) (n := 0) (b := (loopAt 2 (ifun Tryz.f102).body)) (F := fun R rec done x => z6.l2P  rec done x) (enc := z6.l2enc a2001 t2002 i2004) (dec := fun st => (matchSt z6.l2sh st).bind z6.l2un) (out := z6.l2out0 a2001 t2002 s2003 i2004 d2005 k2006) (decO := z6.l2uo)
    (fun x => by kernel_rfl) (fun o => by kernel_rfl) (fun R k d x' => z6.l2_link R k d a2001 t2002 (x'.1) i2004 (x'.2.1) (x'.2.2)) (x := (s2003, d2005, k2006)) (o := o) ho
  exact key
def z6.l0un : List Leaf → Option ((List UInt8) × Int)
  | [.li _, .s _, .s s1003, .i i1004] => some (s1003, i1004)
  | _ => none
def z6.l0uo0 : List Leaf → Option ((List UInt8) × Int)
  | [.li _, .s _, .s y0, .i y1] => some (y0, y1)
  | _ => none
def z6.l0uo (p : X × Env × Store) : Option ((List UInt8) × Int) := (matchSt z6.l0so0 p.2).bind z6.l0uo0
def z6.l0enc (a1001 : List Int) (t1002 : List UInt8) (x' : ((List UInt8) × Int)) : Env × Store := fillSt z6.l0sh [.li a1001, .s t1002, .s x'.1, .i x'.2]
theorem z6.l0pk {ls : List Leaf} {p : LPack} (h : z6.l0pack ls = some p) : ∃ a1001 t1002 s1003 i1004, ls = [.li a1001, .s t1002, .s s1003, .i i1004] ∧ p = .one _ (z6.l0 a1001 (s1003, i1004)) (z6.l0out0 a1001 t1002 s1003 i1004) := by
  unfold z6.l0pack at h
  split at h
  case h_2 => simp at h
  simp only [Option.some.injEq] at h
  exact ⟨_, _, _, _, rfl, h.symm⟩
theorem z6.l0_sound (hI : InlOK Tryz.prog z6.C fun R => z6.C.inlK 6) (st : Env × Store) (p : LPack) (h : (matchSt z6.l0sh st).bind z6.l0pack = some p) : p.sound (z6.C.loopG (z6.C.inlK 6) 102 0 0 (loopAt 0 (ifun Tryz.f102).body) st.2.length) st := by
  obtain ⟨ls, h1, h2⟩ := Option.bind_eq_some_iff.1 h
  have h1 := matchSt_fill h1
  obtain ⟨a1001, t1002, s1003, i1004, rfl, rfl⟩ := z6.l0pk h2
  have hst : st = z6.l0enc a1001 t1002 (s1003, i1004) := h1.symm.trans (by kernel_rfl)
  have hn : (z6.l0enc a1001 t1002 (s1003, i1004)).2.length = 0 := by kernel_rfl
  rw [hst, hn]
  intro o ho
  have key := lfp_sound (I := fun R => z6.C.inlK 6) hI (σ := ((List UInt8) × Int)) (τ := ((List UInt8) × Int)) (fid := 102) (id := 0) (base := 0) (n := 0) (b := (loopAt 0 (ifun Tryz.f102).body)) (F := fun R rec done x => z6.l0P a1001 rec done x) (enc := z6.l0enc a1001 t1002) (dec := fun st => (matchSt z6.l0sh st).bind z6.l0un) (out := z6.l0out0 a1001 t1002 s1003 i1004) (decO := z6.l0uo)
    (fun x => by kernel_rfl) (fun o => by kernel_rfl) (fun R k d x' => z6.l0_link R k d a1001 t1002 (x'.1) (x'.2)) (x := (s1003, i1004)) (o := o) ho
  exact key
def z6.l4un : List Leaf → Option Int
  | [.s _, .s _, .i i3003] => some i3003
  | _ => none
def z6.l4uo0 : List Leaf → Option (Int)
  | [.s _, .s _, .i y0] => some y0
  | _ => none
def z6.l4uo (p : X × Env × Store) : Option (Int) := (matchSt z6.l4so0 p.2).bind z6.l4uo0
def z6.l4enc (t3001 : List UInt8) (s3002 : List UInt8) (x' : Int) : Env × Store := fillSt z6.l4sh [.s t3001, .s s3002, .i x']
theorem z6.l4pk {ls : List Leaf} {p : LPack} (h : z6.l4pack ls = some p) : ∃ t3001 s3002 i3003, ls = [.s t3001, .s s3002, .i i3003] ∧ p = .one _ (z6.l4 s3002 i3003) (z6.l4out0 t3001 s3002 i3003) := by
  unfold z6.l4pack at h
  split at h
  case h_2 => simp at h
  simp only [Option.some.injEq] at h
  exact ⟨_, _, _, rfl, h.symm⟩
theorem z6.l4_sound (hI : InlOK Tryz.prog z6.C fun R => z6.C.inlK 6) (st : Env × Store) (p : LPack) (h : (matchSt z6.l4sh st).bind z6.l4pack = some p) : p.sound (z6.C.loopG (z6.C.inlK 6) 102 4 0 (loopAt 4 (ifun Tryz.f102).body) st.2.length) st := by
  obtain ⟨ls, h1, h2⟩ := Option.bind_eq_some_iff.1 h
  have h1 := matchSt_fill h1
  obtain ⟨t3001, s3002, i3003, rfl, rfl⟩ := z6.l4pk h2
  have hst : st = z6.l4enc t3001 s3002 i3003 := h1.symm.trans (by kernel_rfl)
  have hn : (z6.l4enc t3001 s3002 i3003).2.length = 0 := by kernel_rfl
  rw [hst, hn]
  intro o ho
  have key := lfp_sound (I := fun R => z6.C.inlK 6) hI (σ := Int) (τ := (Int)) (fid := 102) (id := 4) (base := 0) (n := 0) (b := (loopAt 4 (ifun Tryz.f102).body)) (F := fun R rec done x => z6.l4P s3002 rec done x) (enc := z6.l4enc t3001 s3002) (dec := fun st => (matchSt z6.l4sh st).bind z6.l4un) (out := z6.l4out0 t3001 s3002 i3003) (decO := z6.l4uo)
    (fun x => by kernel_rfl) (fun o => by kernel_rfl) (fun R k d x' => z6.l4_link R k d t3001 s3002 (x')) (x := i3003) (o := o) ho
  exact key
theorem fun102 : FunOK Tryz.prog 102 Tryz.f102 (ifun Tryz.f102).body := ⟨Tryz.func102, rfl, by kernel_rfl⟩
theorem once102 : loopsOnce (ifun Tryz.f102).body = true := by kernel_rfl
theorem z6.loopsT (hI : InlOK Tryz.prog z6.C fun R => z6.C.inlK 6) : LoopsOK z6.C (fun R => z6.C.inlK 6) 102 0 (ifun Tryz.f102).body := by
  intro id b hm st p hp
  obtain rfl := loopsOnce_mem once102 hm
  unfold z6.C at hp
  simp only at hp
  try split at hp
  all_goals first
    | (simp at hp; done)
    | (exfalso; omega)
    | exact z6.l2_sound hI st p hp
    | exact z6.l0_sound hI st p hp
    | exact z6.l4_sound hI st p hp
theorem z6.inlF : InlF Tryz.prog z6.C where
  prim g h hp := by simp [z6.C] at hp
  fn g fn h := by simp [z6.C] at h
  loops g fn h := by simp [z6.C] at h
theorem z6.ctx : CtxOK Tryz.prog z6.C where
  tab := tab_ok
  mixed := mixed_ok
  call g vs p _ _ h := by
    simp [z6.C] at h
  clone g e _ h := by
    simp [z6.C] at h
theorem z6.hdec : ∀ v r, z6.dec v = some r → relax3 v = z6.enc r ∧ imm3 (z6.enc r) = true := by
  intro v r h
  unfold z6.dec at h
  split at h
  case h_2 => simp at h
  simp only [Option.some.injEq] at h
  subst h
  exact ⟨rfl, rfl⟩
theorem z6.pk {vs : List V} {p : Pack} (h : z6.pack vs = some p) : ∃ (h0 : Bool) (a0 : List Int), vs = [(.ints h0 .i64 a0)] ∧ p = ⟨(List UInt8), z6.F a0, z6.enc⟩ := by
  unfold z6.pack at h
  split at h
  case h_2 => simp at h
  simp only [Option.some.injEq] at h
  exact ⟨_, _, rfl, h.symm⟩
theorem z6.sound (vs : List V) (p : Pack) (h : z6.pack vs = some p) : SoundC Tryz.prog 102 vs p := by
  obtain ⟨h0, a0, rfl, rfl⟩ := z6.pk h
  exact top_sound z6.ctx z6.inlF fun102 (z6.loopsT (inl_ok z6.ctx z6.inlF 6)) rfl (z6.link a0) z6.hdec
theorem fun26 : FunOK Tryz.prog 26 Tryz.f26 (ifun Tryz.f26).body := ⟨Tryz.func26, rfl, by kernel_rfl⟩
theorem once26 : loopsOnce (ifun Tryz.f26).body = true := by kernel_rfl
theorem z7.loopsT (hI : InlOK Tryz.prog z7.C fun R => z7.C.inlK 6) : LoopsOK z7.C (fun R => z7.C.inlK 6) 26 0 (ifun Tryz.f26).body := by
  intro id b hm st p hp
  obtain rfl := loopsOnce_mem once26 hm
  simp [z7.C] at hp
theorem z7.inlF : InlF Tryz.prog z7.C where
  prim g h hp := by simp [z7.C] at hp
  fn g fn h := by simp [z7.C] at h
  loops g fn h := by simp [z7.C] at h
theorem z7.ctx : CtxOK Tryz.prog z7.C where
  tab := tab_ok
  mixed := mixed_ok
  call g vs p _ _ h := by
    unfold z7.C at h; simp only at h; split at h
    · exact z6.sound vs p h
    · simp at h
  clone g e _ h := by
    simp [z7.C] at h
theorem z7.hdec : ∀ v r, z7.dec v = some r → relax3 v = z7.enc r ∧ imm3 (z7.enc r) = true := by
  intro v r h
  unfold z7.dec at h
  split at h
  case h_2 => simp at h
  simp only [Option.some.injEq] at h
  subst h
  exact ⟨rfl, rfl⟩
theorem z7.pk {vs : List V} {p : Pack} (h : z7.pack vs = some p) : ∃ (h0 : Bool) (a0 : List Int) (a1 : Bool), vs = [(.agg [(.ints h0 .i64 a0), (.bool a1)])] ∧ p = ⟨(List UInt8), z7.F a0 a1, z7.enc⟩ := by
  unfold z7.pack at h
  split at h
  case h_2 => simp at h
  simp only [Option.some.injEq] at h
  exact ⟨_, _, _, rfl, h.symm⟩
theorem z7.sound (vs : List V) (p : Pack) (h : z7.pack vs = some p) : SoundC Tryz.prog 26 vs p := by
  obtain ⟨h0, a0, a1, rfl, rfl⟩ := z7.pk h
  exact top_sound z7.ctx z7.inlF fun26 (z7.loopsT (inl_ok z7.ctx z7.inlF 6)) rfl (z7.link a0 a1) z7.hdec
theorem fun113 : FunOK Tryz.prog 113 Tryz.f113 (ifun Tryz.f113).body := ⟨Tryz.func113, rfl, by kernel_rfl⟩
theorem once113 : loopsOnce (ifun Tryz.f113).body = true := by kernel_rfl
theorem z8.loopsT (hI : InlOK Tryz.prog z8.C fun R => z8.C.inlK 6) : LoopsOK z8.C (fun R => z8.C.inlK 6) 113 0 (ifun Tryz.f113).body := by
  intro id b hm st p hp
  obtain rfl := loopsOnce_mem once113 hm
  simp [z8.C] at hp
theorem z8.inlF : InlF Tryz.prog z8.C where
  prim g h hp := by simp [z8.C] at hp
  fn g fn h := by simp [z8.C] at h
  loops g fn h := by simp [z8.C] at h
theorem z8.ctx : CtxOK Tryz.prog z8.C where
  tab := tab_ok
  mixed := mixed_ok
  call g vs p _ _ h := by
    simp [z8.C] at h
  clone g e _ h := by
    simp [z8.C] at h
theorem z8.hdec : ∀ v r, z8.dec v = some r → relax3 v = z8.enc r ∧ imm3 (z8.enc r) = true := by
  intro v r h
  unfold z8.dec at h
  split at h
  case h_2 => simp at h
  simp only [Option.some.injEq] at h
  subst h
  exact ⟨rfl, rfl⟩
theorem z8.pk {vs : List V} {p : Pack} (h : z8.pack vs = some p) : ∃ (h0 : Bool) (a0 : List Int) (a1 : Bool), vs = [(.ints h0 .i64 a0), (.bool a1)] ∧ p = ⟨(List Int) × Bool, z8.F a0 a1, z8.enc⟩ := by
  unfold z8.pack at h
  split at h
  case h_2 => simp at h
  simp only [Option.some.injEq] at h
  exact ⟨_, _, _, rfl, h.symm⟩
theorem z8.sound (vs : List V) (p : Pack) (h : z8.pack vs = some p) : SoundC Tryz.prog 113 vs p := by
  obtain ⟨h0, a0, a1, rfl, rfl⟩ := z8.pk h
  exact top_sound z8.ctx z8.inlF fun113 (z8.loopsT (inl_ok z8.ctx z8.inlF 6)) rfl (z8.link a0 a1) z8.hdec
def z9.l0un : List Leaf → Option (Int × (List Int))
  | [.i n1001, .li _, .li s1003] => some (n1001, s1003)
  | _ => none
def z9.l0uo0 : List Leaf → Option (Int × (List Int))
  | [.i y0, .li _, .li y1] => some (y0, y1)
  | _ => none
def z9.l0uo (p : X × Env × Store) : Option (Int × (List Int)) := (matchSt z9.l0so0 p.2).bind z9.l0uo0
def z9.l0enc (s1002 : List Int) (x' : (Int × (List Int))) : Env × Store := fillSt z9.l0sh [.i x'.1, .li s1002, .li x'.2]
theorem z9.l0pk {ls : List Leaf} {p : LPack} (h : z9.l0pack ls = some p) : ∃ n1001 s1002 s1003, ls = [.i n1001, .li s1002, .li s1003] ∧ p = .one _ (z9.l0 (n1001, s1003)) (z9.l0out0 n1001 s1002 s1003) := by
  unfold z9.l0pack at h
  split at h
  case h_2 => simp at h
  simp only [Option.some.injEq] at h
  exact ⟨_, _, _, rfl, h.symm⟩
theorem z9.l0_sound (hI : InlOK Tryz.prog z9.C fun R => z9.C.inlK 6) (st : Env × Store) (p : LPack) (h : (matchSt z9.l0sh st).bind z9.l0pack = some p) : p.sound (z9.C.loopG (z9.C.inlK 6) 152 0 0 (loopAt 0 (ifun Tryz.f152).body) st.2.length) st := by
  obtain ⟨ls, h1, h2⟩ := Option.bind_eq_some_iff.1 h
  have h1 := matchSt_fill h1
  obtain ⟨n1001, s1002, s1003, rfl, rfl⟩ := z9.l0pk h2
  have hst : st = z9.l0enc s1002 (n1001, s1003) := h1.symm.trans (by kernel_rfl)
  have hn : (z9.l0enc s1002 (n1001, s1003)).2.length = 2 := by kernel_rfl
  rw [hst, hn]
  intro o ho
  have key := lfp_sound (I := fun R => z9.C.inlK 6) hI (σ := (Int × (List Int))) (τ := (Int × (List Int))) (fid := 152) (id := 0) (base := 0) (n := 2) (b := (loopAt 0 (ifun Tryz.f152).body)) (F := fun R rec done x => z9.l0P  rec done x) (enc := z9.l0enc s1002) (dec := fun st => (matchSt z9.l0sh st).bind z9.l0un) (out := z9.l0out0 n1001 s1002 s1003) (decO := z9.l0uo)
    (fun x => by kernel_rfl) (fun o => by kernel_rfl) (fun R k d x' => z9.l0_link R k d (x'.1) s1002 (x'.2)) (x := (n1001, s1003)) (o := o) ho
  exact key
theorem fun152 : FunOK Tryz.prog 152 Tryz.f152 (ifun Tryz.f152).body := ⟨Tryz.func152, rfl, by kernel_rfl⟩
theorem once152 : loopsOnce (ifun Tryz.f152).body = true := by kernel_rfl
theorem z9.loopsT (hI : InlOK Tryz.prog z9.C fun R => z9.C.inlK 6) : LoopsOK z9.C (fun R => z9.C.inlK 6) 152 0 (ifun Tryz.f152).body := by
  intro id b hm st p hp
  obtain rfl := loopsOnce_mem once152 hm
  unfold z9.C at hp
  simp only at hp
  try split at hp
  all_goals first
    | (simp at hp; done)
    | (exfalso; omega)
    | exact z9.l0_sound hI st p hp
theorem z9.inlF : InlF Tryz.prog z9.C where
  prim g h hp := by simp [z9.C] at hp
  fn g fn h := by simp [z9.C] at h
  loops g fn h := by simp [z9.C] at h
theorem z9.ctx : CtxOK Tryz.prog z9.C where
  tab := tab_ok
  mixed := mixed_ok
  call g vs p _ _ h := by
    simp [z9.C] at h
  clone g e _ h := by
    simp [z9.C] at h
theorem z9.hdec : ∀ v r, z9.dec v = some r → relax3 v = z9.enc r ∧ imm3 (z9.enc r) = true := by
  intro v r h
  unfold z9.dec at h
  split at h
  case h_2 => simp at h
  simp only [Option.some.injEq] at h
  subst h
  exact ⟨rfl, rfl⟩
theorem z9.pk {vs : List V} {p : Pack} (h : z9.pack vs = some p) : ∃ (a0 : Int), vs = [(.int .i64 a0)] ∧ p = ⟨(List Int), z9.F a0, z9.enc⟩ := by
  unfold z9.pack at h
  split at h
  case h_2 => simp at h
  simp only [Option.some.injEq] at h
  exact ⟨_, rfl, h.symm⟩
theorem z9.sound (vs : List V) (p : Pack) (h : z9.pack vs = some p) : SoundC Tryz.prog 152 vs p := by
  obtain ⟨a0, rfl, rfl⟩ := z9.pk h
  exact top_sound z9.ctx z9.inlF fun152 (z9.loopsT (inl_ok z9.ctx z9.inlF 6)) rfl (z9.link a0) z9.hdec
theorem fun60 : FunOK Tryz.prog 60 Tryz.f60 (ifun Tryz.f60).body := ⟨Tryz.func60, rfl, by kernel_rfl⟩
theorem once60 : loopsOnce (ifun Tryz.f60).body = true := by kernel_rfl
theorem z10.loopsT (hI : InlOK Tryz.prog z10.C fun R => z10.C.inlK 6) : LoopsOK z10.C (fun R => z10.C.inlK 6) 60 0 (ifun Tryz.f60).body := by
  intro id b hm st p hp
  obtain rfl := loopsOnce_mem once60 hm
  simp [z10.C] at hp
theorem z10.inlF : InlF Tryz.prog z10.C where
  prim g h hp := by simp [z10.C] at hp
  fn g fn h := by simp [z10.C] at h
  loops g fn h := by simp [z10.C] at h
theorem z10.ctx : CtxOK Tryz.prog z10.C where
  tab := tab_ok
  mixed := mixed_ok
  call g vs p _ _ h := by
    unfold z10.C at h; simp only at h; split at h
    · exact z9.sound vs p h
    · exact z8.sound vs p h
    · simp at h
  clone g e _ h := by
    simp [z10.C] at h
theorem z10.hdec : ∀ v r, z10.dec v = some r → relax3 v = z10.enc r ∧ imm3 (z10.enc r) = true := by
  intro v r h
  unfold z10.dec at h
  split at h
  case h_2 => simp at h
  simp only [Option.some.injEq] at h
  subst h
  exact ⟨rfl, rfl⟩
theorem z10.pk {vs : List V} {p : Pack} (h : z10.pack vs = some p) : ∃ (a0 : Int), vs = [(.int .i64 a0)] ∧ p = ⟨(List Int) × Bool, z10.F a0, z10.enc⟩ := by
  unfold z10.pack at h
  split at h
  case h_2 => simp at h
  simp only [Option.some.injEq] at h
  exact ⟨_, rfl, h.symm⟩
theorem z10.sound (vs : List V) (p : Pack) (h : z10.pack vs = some p) : SoundC Tryz.prog 60 vs p := by
  obtain ⟨a0, rfl, rfl⟩ := z10.pk h
  exact top_sound z10.ctx z10.inlF fun60 (z10.loopsT (inl_ok z10.ctx z10.inlF 6)) rfl (z10.link a0) z10.hdec
theorem fun219 : FunOK Tryz.prog 219 Tryz.f219 (ifun Tryz.f219).body := ⟨Tryz.func219, rfl, by kernel_rfl⟩
theorem once219 : loopsOnce (ifun Tryz.f219).body = true := by kernel_rfl
theorem z11.loopsT (hI : InlOK Tryz.prog z11.C fun R => z11.C.inlK 6) : LoopsOK z11.C (fun R => z11.C.inlK 6) 219 0 (ifun Tryz.f219).body := by
  intro id b hm st p hp
  obtain rfl := loopsOnce_mem once219 hm
  simp [z11.C] at hp
theorem z11.inlF : InlF Tryz.prog z11.C where
  prim g h hp := by simp [z11.C] at hp
  fn g fn h := by simp [z11.C] at h
  loops g fn h := by simp [z11.C] at h
theorem z11.ctx : CtxOK Tryz.prog z11.C where
  tab := tab_ok
  mixed := mixed_ok
  call g vs p _ _ h := by
    simp [z11.C] at h
  clone g e _ h := by
    simp [z11.C] at h
theorem z11.hdec : ∀ v r, z11.dec v = some r → relax3 v = z11.enc r ∧ imm3 (z11.enc r) = true := by
  intro v r h
  unfold z11.dec at h
  split at h
  case h_2 => simp at h
  simp only [Option.some.injEq] at h
  subst h
  exact ⟨rfl, rfl⟩
theorem z11.pk {vs : List V} {p : Pack} (h : z11.pack vs = some p) : ∃ (a0 : Int), vs = [(.int .i64 a0)] ∧ p = ⟨Bool, z11.F a0, z11.enc⟩ := by
  unfold z11.pack at h
  split at h
  case h_2 => simp at h
  simp only [Option.some.injEq] at h
  exact ⟨_, rfl, h.symm⟩
theorem z11.sound (vs : List V) (p : Pack) (h : z11.pack vs = some p) : SoundC Tryz.prog 219 vs p := by
  obtain ⟨a0, rfl, rfl⟩ := z11.pk h
  exact top_sound z11.ctx z11.inlF fun219 (z11.loopsT (inl_ok z11.ctx z11.inlF 6)) rfl (z11.link a0) z11.hdec
theorem fun153 : FunOK Tryz.prog 153 Tryz.f153 (ifun Tryz.f153).body := ⟨Tryz.func153, rfl, by kernel_rfl⟩
theorem once153 : loopsOnce (ifun Tryz.f153).body = true := by kernel_rfl
theorem z12.loopsT (hI : InlOK Tryz.prog z12.C fun R => z12.C.inlK 6) : LoopsOK z12.C (fun R => z12.C.inlK 6) 153 0 (ifun Tryz.f153).body := by
  intro id b hm st p hp
  obtain rfl := loopsOnce_mem once153 hm
  simp [z12.C] at hp
theorem z12.inlF : InlF Tryz.prog z12.C where
  prim g h hp := by simp [z12.C] at hp
  fn g fn h := by simp [z12.C] at h
  loops g fn h := by simp [z12.C] at h
theorem z12.ctx : CtxOK Tryz.prog z12.C where
  tab := tab_ok
  mixed := mixed_ok
  call g vs p _ _ h := by
    unfold z12.C at h; simp only at h; split at h
    · exact z11.sound vs p h
    · simp at h
  clone g e _ h := by
    simp [z12.C] at h
theorem z12.hdec : ∀ v r, z12.dec v = some r → relax3 v = z12.enc r ∧ imm3 (z12.enc r) = true := by
  intro v r h
  unfold z12.dec at h
  split at h
  case h_2 => simp at h
  simp only [Option.some.injEq] at h
  subst h
  exact ⟨rfl, rfl⟩
theorem z12.pk {vs : List V} {p : Pack} (h : z12.pack vs = some p) : ∃ (a0 : Int) (a1 : Int), vs = [(.int .i64 a0), (.int .i64 a1)] ∧ p = ⟨Int, z12.F a0 a1, z12.enc⟩ := by
  unfold z12.pack at h
  split at h
  case h_2 => simp at h
  simp only [Option.some.injEq] at h
  exact ⟨_, _, rfl, h.symm⟩
theorem z12.sound (vs : List V) (p : Pack) (h : z12.pack vs = some p) : SoundC Tryz.prog 153 vs p := by
  obtain ⟨a0, a1, rfl, rfl⟩ := z12.pk h
  exact top_sound z12.ctx z12.inlF fun153 (z12.loopsT (inl_ok z12.ctx z12.inlF 6)) rfl (z12.link a0 a1) z12.hdec
theorem fun95 : FunOK Tryz.prog 95 Tryz.f95 (ifun Tryz.f95).body := ⟨Tryz.func95, rfl, by kernel_rfl⟩
theorem once95 : loopsOnce (ifun Tryz.f95).body = true := by kernel_rfl
theorem z13.loopsT (hI : InlOK Tryz.prog z13.C fun R => z13.C.inlK 6) : LoopsOK z13.C (fun R => z13.C.inlK 6) 95 0 (ifun Tryz.f95).body := by
  intro id b hm st p hp
  obtain rfl := loopsOnce_mem once95 hm
  simp [z13.C] at hp
theorem z13.inlF : InlF Tryz.prog z13.C where
  prim g h hp := by simp [z13.C] at hp
  fn g fn h := by simp [z13.C] at h
  loops g fn h := by simp [z13.C] at h
theorem z13.ctx : CtxOK Tryz.prog z13.C where
  tab := tab_ok
  mixed := mixed_ok
  call g vs p _ _ h := by
    unfold z13.C at h; simp only at h; split at h
    · exact z12.sound vs p h
    · simp at h
  clone g e _ h := by
    simp [z13.C] at h
theorem z13.hdec : ∀ v r, z13.dec v = some r → relax3 v = z13.enc r ∧ imm3 (z13.enc r) = true := by
  intro v r h
  unfold z13.dec at h
  split at h
  case h_2 => simp at h
  simp only [Option.some.injEq] at h
  subst h
  exact ⟨rfl, rfl⟩
theorem z13.pk {vs : List V} {p : Pack} (h : z13.pack vs = some p) : ∃ (a0 : Int) (a1 : Int) (a2 : Int) (a3 : Int), vs = [(.agg [(.int .i64 a0), (.int .i64 a1), (.int .i64 a2)]), (.int .i64 a3)] ∧ p = ⟨Int × Int × Int, z13.F a0 a1 a2 a3, z13.enc⟩ := by
  unfold z13.pack at h
  split at h
  case h_2 => simp at h
  simp only [Option.some.injEq] at h
  exact ⟨_, _, _, _, rfl, h.symm⟩
theorem z13.sound (vs : List V) (p : Pack) (h : z13.pack vs = some p) : SoundC Tryz.prog 95 vs p := by
  obtain ⟨a0, a1, a2, a3, rfl, rfl⟩ := z13.pk h
  exact top_sound z13.ctx z13.inlF fun95 (z13.loopsT (inl_ok z13.ctx z13.inlF 6)) rfl (z13.link a0 a1 a2 a3) z13.hdec
theorem fun234 : FunOK Tryz.prog 234 Tryz.f234 (ifun Tryz.f234).body := ⟨Tryz.func234, rfl, by kernel_rfl⟩
theorem once234 : loopsOnce (ifun Tryz.f234).body = true := by kernel_rfl
theorem z14.loopsT (hI : InlOK Tryz.prog z14.C fun R => z14.C.inlK 6) : LoopsOK z14.C (fun R => z14.C.inlK 6) 234 0 (ifun Tryz.f234).body := by
  intro id b hm st p hp
  obtain rfl := loopsOnce_mem once234 hm
  simp [z14.C] at hp
theorem z14.inlF : InlF Tryz.prog z14.C where
  prim g h hp := by simp [z14.C] at hp
  fn g fn h := by simp [z14.C] at h
  loops g fn h := by simp [z14.C] at h
theorem z14.ctx : CtxOK Tryz.prog z14.C where
  tab := tab_ok
  mixed := mixed_ok
  call g vs p _ _ h := by
    simp [z14.C] at h
  clone g e _ h := by
    simp [z14.C] at h
theorem z14.hdec : ∀ v r, z14.dec v = some r → relax3 v = z14.enc r ∧ imm3 (z14.enc r) = true := by
  intro v r h
  unfold z14.dec at h
  split at h
  case h_2 => simp at h
  simp only [Option.some.injEq] at h
  subst h
  exact ⟨rfl, rfl⟩
theorem z14.pk {vs : List V} {p : Pack} (h : z14.pack vs = some p) : ∃ (h0 : Bool) (a0 : List Int) (a1 : Int), vs = [(.ints h0 .i64 a0), (.int .i64 a1)] ∧ p = ⟨Int, z14.F a0 a1, z14.enc⟩ := by
  unfold z14.pack at h
  split at h
  case h_2 => simp at h
  simp only [Option.some.injEq] at h
  exact ⟨_, _, _, rfl, h.symm⟩
theorem z14.sound (vs : List V) (p : Pack) (h : z14.pack vs = some p) : SoundC Tryz.prog 234 vs p := by
  obtain ⟨h0, a0, a1, rfl, rfl⟩ := z14.pk h
  exact top_sound z14.ctx z14.inlF fun234 (z14.loopsT (inl_ok z14.ctx z14.inlF 6)) rfl (z14.link a0 a1) z14.hdec
def z15.l0b6un : List Leaf → Option Int
  | [.li _, .i n7002, .li _] => some n7002
  | _ => none
def z15.l0b6uo0 : List Leaf → Option (Int)
  | [.li _, .i y0, .li _] => some y0
  | _ => none
def z15.l0b6uo (p : X × Env × Store) : Option (Int) := (matchSt z15.l0b6so0 p.2).bind z15.l0b6uo0
def z15.l0b6enc (a7001 : List Int) (s7003 : List Int) (x' : Int) : Env × Store := fillSt z15.l0b6sh [.li a7001, .i x', .li s7003]
theorem z15.l0b6pk {ls : List Leaf} {p : LPack} (h : z15.l0b6pack ls = some p) : ∃ a7001 n7002 s7003, ls = [.li a7001, .i n7002, .li s7003] ∧ p = .one _ (z15.l0b6 a7001 n7002) (z15.l0b6out0 a7001 n7002 s7003) := by
  unfold z15.l0b6pack at h
  split at h
  case h_2 => simp at h
  simp only [Option.some.injEq] at h
  exact ⟨_, _, _, rfl, h.symm⟩
theorem z15.l0b6_sound (hI : InlOK Tryz.prog z15.C fun R => z15.C.inlK 6) (st : Env × Store) (p : LPack) (h : (matchSt z15.l0b6sh st).bind z15.l0b6pack = some p) : p.sound (z15.C.loopG (z15.C.inlK 6) 235 0 0 (loopAt 0 (ifun Tryz.f235).body) st.2.length) st := by
  obtain ⟨ls, h1, h2⟩ := Option.bind_eq_some_iff.1 h
  have h1 := matchSt_fill h1
  obtain ⟨a7001, n7002, s7003, rfl, rfl⟩ := z15.l0b6pk h2
  have hst : st = z15.l0b6enc a7001 s7003 n7002 := h1.symm.trans (by kernel_rfl)
  have hn : (z15.l0b6enc a7001 s7003 n7002).2.length = 1 := by kernel_rfl
  rw [hst, hn]
  intro o ho
  have key := lfp_sound (I := fun R => z15.C.inlK 6) hI (σ := Int) (τ := (Int)) (fid := 235) (id := 0) (base := 0) (n := 1) (b := (loopAt 0 (ifun Tryz.f235).body)) (F := fun R rec done x => z15.l0b6P a7001 rec done x) (enc := z15.l0b6enc a7001 s7003) (dec := fun st => (matchSt z15.l0b6sh st).bind z15.l0b6un) (out := z15.l0b6out0 a7001 n7002 s7003) (decO := z15.l0b6uo)
    (fun x => by kernel_rfl) (fun o => by kernel_rfl) (fun R k d x' => z15.l0b6_link R k d a7001 (x') s7003) (x := n7002) (o := o) ho
  exact key
theorem fun235 : FunOK Tryz.prog 235 Tryz.f235 (ifun Tryz.f235).body := ⟨Tryz.func235, rfl, by kernel_rfl⟩
theorem once235 : loopsOnce (ifun Tryz.f235).body = true := by kernel_rfl
theorem z15.loopsT (hI : InlOK Tryz.prog z15.C fun R => z15.C.inlK 6) : LoopsOK z15.C (fun R => z15.C.inlK 6) 235 0 (ifun Tryz.f235).body := by
  intro id b hm st p hp
  obtain rfl := loopsOnce_mem once235 hm
  unfold z15.C at hp
  simp only at hp
  try split at hp
  all_goals first
    | (simp at hp; done)
    | (exfalso; omega)
    | exact z15.l0b6_sound hI st p hp
theorem z15.inlF : InlF Tryz.prog z15.C where
  prim g h hp := by simp [z15.C] at hp
  fn g fn h := by simp [z15.C] at h
  loops g fn h := by simp [z15.C] at h
theorem z15.ctx : CtxOK Tryz.prog z15.C where
  tab := tab_ok
  mixed := mixed_ok
  call g vs p _ _ h := by
    simp [z15.C] at h
  clone g e _ h := by
    simp [z15.C] at h
theorem z15.hdec : ∀ v r, z15.dec v = some r → relax3 v = z15.enc r ∧ imm3 (z15.enc r) = true := by
  intro v r h
  unfold z15.dec at h
  split at h
  case h_2 => simp at h
  simp only [Option.some.injEq] at h
  subst h
  exact ⟨rfl, rfl⟩
theorem z15.pk {vs : List V} {p : Pack} (h : z15.pack vs = some p) : ∃ (h0 : Bool) (a0 : List Int), vs = [(.ints h0 .i64 a0)] ∧ p = ⟨(List Int), z15.F a0, z15.enc⟩ := by
  unfold z15.pack at h
  split at h
  case h_2 => simp at h
  simp only [Option.some.injEq] at h
  exact ⟨_, _, rfl, h.symm⟩
theorem z15.sound (vs : List V) (p : Pack) (h : z15.pack vs = some p) : SoundC Tryz.prog 235 vs p := by
  obtain ⟨h0, a0, rfl, rfl⟩ := z15.pk h
  exact top_sound z15.ctx z15.inlF fun235 (z15.loopsT (inl_ok z15.ctx z15.inlF 6)) rfl (z15.link a0) z15.hdec
def z16.l2aaun : List Leaf → Option (Int × Int × (List Int))
  | [.li _, .li _, .i _, .i carry4004, .i k4005, .li _, .li s4007] => some (carry4004, k4005, s4007)
  | _ => none
def z16.l2aauo0 : List Leaf → Option (Int × Int × (List Int))
  | [.li _, .li _, .i _, .i y0, .i y1, .li _, .li y2] => some (y0, y1, y2)
  | _ => none
def z16.l2aauo (p : X × Env × Store) : Option (Int × Int × (List Int)) := (matchSt z16.l2aaso0 p.2).bind z16.l2aauo0
def z16.l2aaenc (a4001 : List Int) (b4002 : List Int) (i4003 : Int) (s4006 : List Int) (x' : (Int × Int × (List Int))) : Env × Store := fillSt z16.l2aash [.li a4001, .li b4002, .i i4003, .i x'.1, .i x'.2.1, .li s4006, .li x'.2.2]
theorem z16.l2aapk {ls : List Leaf} {p : LPack} (h : z16.l2aapack ls = some p) : ∃ a4001 b4002 i4003 carry4004 k4005 s4006 s4007, ls = [.li a4001, .li b4002, .i i4003, .i carry4004, .i k4005, .li s4006, .li s4007] ∧ p = .one _ (z16.l2aa a4001 b4002 i4003 (carry4004, k4005, s4007)) (z16.l2aaout0 a4001 b4002 i4003 carry4004 k4005 s4006 s4007) := by
  unfold z16.l2aapack at h
  split at h
  case h_2 => simp at h
  simp only [Option.some.injEq] at h
  exact ⟨_, _, _, _, _, _, _, rfl, h.symm⟩
theorem z16.l2aa_sound (hI : InlOK Tryz.prog z16.C fun R => z16.C.inlK 6) (st : Env × Store) (p : LPack) (h : (matchSt z16.l2aash st).bind z16.l2aapack = some p) : p.sound (z16.C.loopG (z16.C.inlK 6) 208 2 0 (loopAt 2 (ifun Tryz.f208).body) st.2.length) st := by
  obtain ⟨ls, h1, h2⟩ := Option.bind_eq_some_iff.1 h
  have h1 := matchSt_fill h1
  obtain ⟨a4001, b4002, i4003, carry4004, k4005, s4006, s4007, rfl, rfl⟩ := z16.l2aapk h2
  have hst : st = z16.l2aaenc a4001 b4002 i4003 s4006 (carry4004, k4005, s4007) := h1.symm.trans (by kernel_rfl)
  have hn : (z16.l2aaenc a4001 b4002 i4003 s4006 (carry4004, k4005, s4007)).2.length = 2 := by kernel_rfl
  rw [hst, hn]
  intro o ho
  have key := lfp_sound (I := fun R => z16.C.inlK 6) hI (σ := (Int × Int × (List Int))) (τ := (Int × Int × (List Int))) (fid := 208) (id := 2) (base := 0) (n := 2) (b := (loopAt 2 (ifun Tryz.f208).body)) (F := fun R rec done x => z16.l2aaP a4001 b4002 i4003 rec done x) (enc := z16.l2aaenc a4001 b4002 i4003 s4006) (dec := fun st => (matchSt z16.l2aash st).bind z16.l2aaun) (out := z16.l2aaout0 a4001 b4002 i4003 carry4004 k4005 s4006 s4007) (decO := z16.l2aauo)
    (fun x => by kernel_rfl) (fun o => by kernel_rfl) (fun R k d x' => z16.l2aa_link R k d a4001 b4002 i4003 (x'.1) (x'.2.1) s4006 (x'.2.2)) (x := (carry4004, k4005, s4007)) (o := o) ho
  exact key
def z16.l0un : List Leaf → Option (Int × (List Int))
  | [.li _, .li _, .i i1003, .li _, .li s1005] => some (i1003, s1005)
  | _ => none
def z16.l0uo0 : List Leaf → Option (Int × (List Int))
  | [.li _, .li _, .i y0, .li _, .li y1] => some (y0, y1)
  | _ => none
def z16.l0uo (p : X × Env × Store) : Option (Int × (List Int)) := (matchSt z16.l0so0 p.2).bind z16.l0uo0
def z16.l0enc (a1001 : List Int) (b1002 : List Int) (s1004 : List Int) (x' : (Int × (List Int))) : Env × Store := fillSt z16.l0sh [.li a1001, .li b1002, .i x'.1, .li s1004, .li x'.2]
theorem z16.l0pk {ls : List Leaf} {p : LPack} (h : z16.l0pack ls = some p) : ∃ a1001 b1002 i1003 s1004 s1005, ls = [.li a1001, .li b1002, .i i1003, .li s1004, .li s1005] ∧ p = .one _ (z16.l0 a1001 b1002 (i1003, s1005)) (z16.l0out0 a1001 b1002 i1003 s1004 s1005) := by
  unfold z16.l0pack at h
  split at h
  case h_2 => simp at h
  simp only [Option.some.injEq] at h
  exact ⟨_, _, _, _, _, rfl, h.symm⟩
theorem z16.l0_sound (hI : InlOK Tryz.prog z16.C fun R => z16.C.inlK 6) (st : Env × Store) (p : LPack) (h : (matchSt z16.l0sh st).bind z16.l0pack = some p) : p.sound (z16.C.loopG (z16.C.inlK 6) 208 0 0 (loopAt 0 (ifun Tryz.f208).body) st.2.length) st := by
  obtain ⟨ls, h1, h2⟩ := Option.bind_eq_some_iff.1 h
  have h1 := matchSt_fill h1
  obtain ⟨a1001, b1002, i1003, s1004, s1005, rfl, rfl⟩ := z16.l0pk h2
  have hst : st = z16.l0enc a1001 b1002 s1004 (i1003, s1005) := h1.symm.trans (by kernel_rfl)
  have hn : (z16.l0enc a1001 b1002 s1004 (i1003, s1005)).2.length = 2 := by kernel_rfl
  rw [hst, hn]
  intro o ho
  have key := lfp_sound (I := fun R => z16.C.inlK 6) hI (σ := (Int × (List Int))) (τ := (Int × (List Int))) (fid := 208) (id := 0) (base := 0) (n := 2) (b := (loopAt 0 (ifun Tryz.f208).body)) (F := fun R rec done x => z16.l0P a1001 b1002 rec done x) (enc := z16.l0enc a1001 b1002 s1004) (dec := fun st => (matchSt z16.l0sh st).bind z16.l0un) (out := z16.l0out0 a1001 b1002 i1003 s1004 s1005) (decO := z16.l0uo)
    (fun x => by kernel_rfl) (fun o => by kernel_rfl) (fun R k d x' => z16.l0_link R k d a1001 b1002 (x'.1) s1004 (x'.2)) (x := (i1003, s1005)) (o := o) ho
  exact key
theorem fun208 : FunOK Tryz.prog 208 Tryz.f208 (ifun Tryz.f208).body := ⟨Tryz.func208, rfl, by kernel_rfl⟩
theorem once208 : loopsOnce (ifun Tryz.f208).body = true := by kernel_rfl
theorem z16.loopsT (hI : InlOK Tryz.prog z16.C fun R => z16.C.inlK 6) : LoopsOK z16.C (fun R => z16.C.inlK 6) 208 0 (ifun Tryz.f208).body := by
  intro id b hm st p hp
  obtain rfl := loopsOnce_mem once208 hm
  unfold z16.C at hp
  simp only at hp
  try split at hp
  all_goals first
    | (simp at hp; done)
    | (exfalso; omega)
    | exact z16.l2aa_sound hI st p hp
    | exact z16.l0_sound hI st p hp
theorem z16.inlF : InlF Tryz.prog z16.C where
  prim g h hp := by simp [z16.C] at hp
  fn g fn h := by simp [z16.C] at h
  loops g fn h := by simp [z16.C] at h
theorem z16.ctx : CtxOK Tryz.prog z16.C where
  tab := tab_ok
  mixed := mixed_ok
  call g vs p _ _ h := by
    unfold z16.C at h; simp only at h; split at h
    · exact z14.sound vs p h
    · exact z15.sound vs p h
    · simp at h
  clone g e _ h := by
    simp [z16.C] at h
theorem z16.hdec : ∀ v r, z16.dec v = some r → relax3 v = z16.enc r ∧ imm3 (z16.enc r) = true := by
  intro v r h
  unfold z16.dec at h
  split at h
  case h_2 => simp at h
  simp only [Option.some.injEq] at h
  subst h
  exact ⟨rfl, rfl⟩
theorem z16.pk {vs : List V} {p : Pack} (h : z16.pack vs = some p) : ∃ (h0 : Bool) (h1 : Bool) (a0 : List Int) (a1 : List Int), vs = [(.ints h0 .i64 a0), (.ints h1 .i64 a1)] ∧ p = ⟨(List Int), z16.F a0 a1, z16.enc⟩ := by
  unfold z16.pack at h
  split at h
  case h_2 => simp at h
  simp only [Option.some.injEq] at h
  exact ⟨_, _, _, _, rfl, h.symm⟩
theorem z16.sound (vs : List V) (p : Pack) (h : z16.pack vs = some p) : SoundC Tryz.prog 208 vs p := by
  obtain ⟨h0, h1, a0, a1, rfl, rfl⟩ := z16.pk h
  exact top_sound z16.ctx z16.inlF fun208 (z16.loopsT (inl_ok z16.ctx z16.inlF 6)) rfl (z16.link a0 a1) z16.hdec
theorem fun131 : FunOK Tryz.prog 131 Tryz.f131 (ifun Tryz.f131).body := ⟨Tryz.func131, rfl, by kernel_rfl⟩
theorem once131 : loopsOnce (ifun Tryz.f131).body = true := by kernel_rfl
theorem z17.loopsT (hI : InlOK Tryz.prog z17.C fun R => z17.C.inlK 6) : LoopsOK z17.C (fun R => z17.C.inlK 6) 131 0 (ifun Tryz.f131).body := by
  intro id b hm st p hp
  obtain rfl := loopsOnce_mem once131 hm
  simp [z17.C] at hp
theorem z17.inlF : InlF Tryz.prog z17.C where
  prim g h hp := by simp [z17.C] at hp
  fn g fn h := by simp [z17.C] at h
  loops g fn h := by simp [z17.C] at h
theorem z17.ctx : CtxOK Tryz.prog z17.C where
  tab := tab_ok
  mixed := mixed_ok
  call g vs p _ _ h := by
    unfold z17.C at h; simp only at h; split at h
    · exact z16.sound vs p h
    · exact z8.sound vs p h
    · simp at h
  clone g e _ h := by
    simp [z17.C] at h
theorem z17.hdec : ∀ v r, z17.dec v = some r → relax3 v = z17.enc r ∧ imm3 (z17.enc r) = true := by
  intro v r h
  unfold z17.dec at h
  split at h
  case h_2 => simp at h
  simp only [Option.some.injEq] at h
  subst h
  exact ⟨rfl, rfl⟩
theorem z17.pk {vs : List V} {p : Pack} (h : z17.pack vs = some p) : ∃ (h0 : Bool) (h1 : Bool) (a0 : List Int) (a1 : Bool) (a2 : List Int) (a3 : Bool), vs = [(.agg [(.ints h0 .i64 a0), (.bool a1)]), (.agg [(.ints h1 .i64 a2), (.bool a3)])] ∧ p = ⟨(List Int) × Bool, z17.F a0 a1 a2 a3, z17.enc⟩ := by
  unfold z17.pack at h
  split at h
  case h_2 => simp at h
  simp only [Option.some.injEq] at h
  exact ⟨_, _, _, _, _, _, rfl, h.symm⟩
theorem z17.sound (vs : List V) (p : Pack) (h : z17.pack vs = some p) : SoundC Tryz.prog 131 vs p := by
  obtain ⟨h0, h1, a0, a1, a2, a3, rfl, rfl⟩ := z17.pk h
  exact top_sound z17.ctx z17.inlF fun131 (z17.loopsT (inl_ok z17.ctx z17.inlF 6)) rfl (z17.link a0 a1 a2 a3) z17.hdec
def z18.l0un : List Leaf → Option ((List UInt8))
  | [.s _, .s s1002, .li _, .b _, .i _] => some s1002
  | _ => none
def z18.l0uo0 : List Leaf → Option ((List UInt8))
  | [.s _, .s y0, .li _, .b _, .i _] => some y0
  | _ => none
def z18.l0uo (p : X × Env × Store) : Option ((List UInt8)) := (matchSt z18.l0so0 p.2).bind z18.l0uo0
def z18.l0enc (t1001 : List UInt8) (s1003 : List Int) (s1004 : Bool) (s1005 : Int) (x' : ((List UInt8))) : Env × Store := fillSt z18.l0sh [.s t1001, .s x', .li s1003, .b s1004, .i s1005]
theorem z18.l0pk {ls : List Leaf} {p : LPack} (h : z18.l0pack ls = some p) : ∃ t1001 s1002 s1003 s1004 s1005, ls = [.s t1001, .s s1002, .li s1003, .b s1004, .i s1005] ∧ p = .one _ (z18.l0 s1005 s1002) (z18.l0out0 t1001 s1002 s1003 s1004 s1005) := by
  unfold z18.l0pack at h
  split at h
  case h_2 => simp at h
  simp only [Option.some.injEq] at h
  exact ⟨_, _, _, _, _, rfl, h.symm⟩
theorem z18.l0_sound (hI : InlOK Tryz.prog z18.C fun R => z18.C.inlK 6) (st : Env × Store) (p : LPack) (h : (matchSt z18.l0sh st).bind z18.l0pack = some p) : p.sound (z18.C.loopG (z18.C.inlK 6) 132 0 0 (loopAt 0 (ifun Tryz.f132).body) st.2.length) st := by
  obtain ⟨ls, h1, h2⟩ := Option.bind_eq_some_iff.1 h
  have h1 := matchSt_fill h1
  obtain ⟨t1001, s1002, s1003, s1004, s1005, rfl, rfl⟩ := z18.l0pk h2
  have hst : st = z18.l0enc t1001 s1003 s1004 s1005 s1002 := h1.symm.trans (by kernel_rfl)
  have hn : (z18.l0enc t1001 s1003 s1004 s1005 s1002).2.length = 1 := by kernel_rfl
  rw [hst, hn]
  intro o ho
  have key := lfp_sound (I := fun R => z18.C.inlK 6) hI (σ := ((List UInt8))) (τ := ((List UInt8))) (fid := 132) (id := 0) (base := 0) (n := 1) (b := (loopAt 0 (ifun Tryz.f132).body)) (F := fun R rec done x => z18.l0P s1005 rec done x) (enc := z18.l0enc t1001 s1003 s1004 s1005) (dec := fun st => (matchSt z18.l0sh st).bind z18.l0un) (out := z18.l0out0 t1001 s1002 s1003 s1004 s1005) (decO := z18.l0uo)
    (fun x => by kernel_rfl) (fun o => by kernel_rfl) (fun R k d x' => z18.l0_link R k d t1001 (x') s1003 s1004 s1005) (x := s1002) (o := o) ho
  exact key
theorem fun132 : FunOK Tryz.prog 132 Tryz.f132 (ifun Tryz.f132).body := ⟨Tryz.func132, rfl, by kernel_rfl⟩
theorem once132 : loopsOnce (ifun Tryz.f132).body = true := by kernel_rfl
theorem z18.loopsT (hI : InlOK Tryz.prog z18.C fun R => z18.C.inlK 6) : LoopsOK z18.C (fun R => z18.C.inlK 6) 132 0 (ifun Tryz.f132).body := by
  intro id b hm st p hp
  obtain rfl := loopsOnce_mem once132 hm
  unfold z18.C at hp
  simp only at hp
  try split at hp
  all_goals first
    | (simp at hp; done)
    | (exfalso; omega)
    | exact z18.l0_sound hI st p hp
theorem z18.inlF : InlF Tryz.prog z18.C where
  prim g h hp := by simp [z18.C] at hp
  fn g fn h := by simp [z18.C] at h
  loops g fn h := by simp [z18.C] at h
theorem z18.ctx : CtxOK Tryz.prog z18.C where
  tab := tab_ok
  mixed := mixed_ok
  call g vs p _ _ h := by
    unfold z18.C at h; simp only at h; split at h
    · exact z6.sound vs p h
    · simp at h
  clone g e _ h := by
    simp [z18.C] at h
theorem z18.hdec : ∀ v r, z18.dec v = some r → relax3 v = z18.enc r ∧ imm3 (z18.enc r) = true := by
  intro v r h
  unfold z18.dec at h
  split at h
  case h_2 => simp at h
  simp only [Option.some.injEq] at h
  subst h
  exact ⟨rfl, rfl⟩
theorem z18.pk {vs : List V} {p : Pack} (h : z18.pack vs = some p) : ∃ (h0 : Bool) (a0 : List Int) (a1 : Bool) (a2 : Int), vs = [(.agg [(.ints h0 .i64 a0), (.bool a1), (.int .i64 a2)])] ∧ p = ⟨(List UInt8), z18.F a0 a1 a2, z18.enc⟩ := by
  unfold z18.pack at h
  split at h
  case h_2 => simp at h
  simp only [Option.some.injEq] at h
  exact ⟨_, _, _, _, rfl, h.symm⟩
theorem z18.sound (vs : List V) (p : Pack) (h : z18.pack vs = some p) : SoundC Tryz.prog 132 vs p := by
  obtain ⟨h0, a0, a1, a2, rfl, rfl⟩ := z18.pk h
  exact top_sound z18.ctx z18.inlF fun132 (z18.loopsT (inl_ok z18.ctx z18.inlF 6)) rfl (z18.link a0 a1 a2) z18.hdec
theorem fun43 : FunOK Tryz.prog 43 Tryz.f43 (ifun Tryz.f43).body := ⟨Tryz.func43, rfl, by kernel_rfl⟩
theorem once43 : loopsOnce (ifun Tryz.f43).body = true := by kernel_rfl
theorem z19.loopsT (hI : InlOK Tryz.prog z19.C fun R => z19.C.inlK 6) : LoopsOK z19.C (fun R => z19.C.inlK 6) 43 0 (ifun Tryz.f43).body := by
  intro id b hm st p hp
  obtain rfl := loopsOnce_mem once43 hm
  simp [z19.C] at hp
theorem z19.inlF : InlF Tryz.prog z19.C where
  prim g h hp := by simp [z19.C] at hp
  fn g fn h := by simp [z19.C] at h
  loops g fn h := by simp [z19.C] at h
theorem z19.ctx : CtxOK Tryz.prog z19.C where
  tab := tab_ok
  mixed := mixed_ok
  call g vs p _ _ h := by
    unfold z19.C at h; simp only at h; split at h
    · exact z13.sound vs p h
    · exact z10.sound vs p h
    · exact z17.sound vs p h
    · exact z7.sound vs p h
    · exact z18.sound vs p h
    · simp at h
  clone g e _ h := by
    simp [z19.C] at h
theorem z19.hdec : ∀ v r, z19.dec v = some r → relax3 v = z19.enc r ∧ imm3 (z19.enc r) = true := by
  intro v r h
  unfold z19.dec at h
  split at h
  case h_2 => simp at h
  simp only [Option.some.injEq] at h
  subst h
  exact ⟨rfl, rfl⟩
theorem z19.pk {vs : List V} {p : Pack} (h : z19.pack vs = some p) : ∃ (a0 : Int) (a1 : Int) (a2 : Int) (a3 : Int) (a4 : Int) (a5 : Int) (a6 : Int) (a7 : Int) (a8 : Int) (a9 : Int) (a10 : Int) (a11 : Int) (a12 : Int), vs = [(.agg [(.int .u64 a0), (.int .u16 a1), (.int .u32 a2), (.int .u8 a3), (.int .u8 a4), (.int .u8 a5), (.int .u8 a6), (.int .u8 a7), (.int .u8 a8), (.int .i64 a9), (.int .i64 a10), (.int .i64 a11)]), (.int .i64 a12)] ∧ p = ⟨(List UInt8) × (List UInt8) × Int × Int × Int × Int × Int × Int × Int × Int, z19.F a0 a1 a2 a3 a4 a5 a6 a7 a8 a9 a10 a11 a12, z19.enc⟩ := by
  unfold z19.pack at h
  split at h
  case h_2 => simp at h
  simp only [Option.some.injEq] at h
  exact ⟨_, _, _, _, _, _, _, _, _, _, _, _, _, rfl, h.symm⟩
theorem z19.sound (vs : List V) (p : Pack) (h : z19.pack vs = some p) : SoundC Tryz.prog 43 vs p := by
  obtain ⟨a0, a1, a2, a3, a4, a5, a6, a7, a8, a9, a10, a11, a12, rfl, rfl⟩ := z19.pk h
  exact top_sound z19.ctx z19.inlF fun43 (z19.loopsT (inl_ok z19.ctx z19.inlF 6)) rfl (z19.link a0 a1 a2 a3 a4 a5 a6 a7 a8 a9 a10 a11 a12) z19.hdec
theorem fun104 : FunOK Tryz.prog 104 Tryz.f104 (ifun Tryz.f104).body := ⟨Tryz.func104, rfl, by kernel_rfl⟩
theorem once104 : loopsOnce (ifun Tryz.f104).body = true := by kernel_rfl
theorem z20.loopsT (hI : InlOK Tryz.prog z20.C fun R => z20.C.inlK 6) : LoopsOK z20.C (fun R => z20.C.inlK 6) 104 0 (ifun Tryz.f104).body := by
  intro id b hm st p hp
  obtain rfl := loopsOnce_mem once104 hm
  simp [z20.C] at hp
theorem z20.inlF : InlF Tryz.prog z20.C where
  prim g h hp := by simp [z20.C] at hp
  fn g fn h := by simp [z20.C] at h
  loops g fn h := by simp [z20.C] at h
theorem z20.ctx : CtxOK Tryz.prog z20.C where
  tab := tab_ok
  mixed := mixed_ok
  call g vs p _ _ h := by
    simp [z20.C] at h
  clone g e _ h := by
    simp [z20.C] at h
theorem z20.hdec : ∀ v r, z20.dec v = some r → relax3 v = z20.enc r ∧ imm3 (z20.enc r) = true := by
  intro v r h
  unfold z20.dec at h
  split at h
  case h_2 => simp at h
  simp only [Option.some.injEq] at h
  subst h
  exact ⟨rfl, rfl⟩
theorem z20.pk {vs : List V} {p : Pack} (h : z20.pack vs = some p) : ∃ (h0 : Bool) (a0 : List Int), vs = [(.agg [(.ints h0 .u64 a0)])] ∧ p = ⟨Bool, z20.F a0, z20.enc⟩ := by
  unfold z20.pack at h
  split at h
  case h_2 => simp at h
  simp only [Option.some.injEq] at h
  exact ⟨_, _, rfl, h.symm⟩
theorem z20.sound (vs : List V) (p : Pack) (h : z20.pack vs = some p) : SoundC Tryz.prog 104 vs p := by
  obtain ⟨h0, a0, rfl, rfl⟩ := z20.pk h
  exact top_sound z20.ctx z20.inlF fun104 (z20.loopsT (inl_ok z20.ctx z20.inlF 6)) rfl (z20.link a0) z20.hdec
theorem fun28 : FunOK Tryz.prog 28 Tryz.f28 (ifun Tryz.f28).body := ⟨Tryz.func28, rfl, by kernel_rfl⟩
theorem once28 : loopsOnce (ifun Tryz.f28).body = true := by kernel_rfl
theorem z21.loopsT (hI : InlOK Tryz.prog z21.C fun R => z21.C.inlK 6) : LoopsOK z21.C (fun R => z21.C.inlK 6) 28 0 (ifun Tryz.f28).body := by
  intro id b hm st p hp
  obtain rfl := loopsOnce_mem once28 hm
  simp [z21.C] at hp
theorem z21.inlF : InlF Tryz.prog z21.C where
  prim g h hp := by simp [z21.C] at hp
  fn g fn h := by simp [z21.C] at h
  loops g fn h := by simp [z21.C] at h
theorem z21.ctx : CtxOK Tryz.prog z21.C where
  tab := tab_ok
  mixed := mixed_ok
  call g vs p _ _ h := by
    unfold z21.C at h; simp only at h; split at h
    · exact z20.sound vs p h
    · simp at h
  clone g e _ h := by
    simp [z21.C] at h
theorem z21.hdec : ∀ v r, z21.dec v = some r → relax3 v = z21.enc r ∧ imm3 (z21.enc r) = true := by
  intro v r h
  unfold z21.dec at h
  split at h
  case h_2 => simp at h
  simp only [Option.some.injEq] at h
  subst h
  exact ⟨rfl, rfl⟩
theorem z21.pk {vs : List V} {p : Pack} (h : z21.pack vs = some p) : ∃ (h0 : Bool) (a0 : List Int) (a1 : Bool), vs = [(.agg [(.ints h0 .u64 a0), (.bool a1)])] ∧ p = ⟨Int, z21.F a0 a1, z21.enc⟩ := by
  unfold z21.pack at h
  split at h
  case h_2 => simp at h
  simp only [Option.some.injEq] at h
  exact ⟨_, _, _, rfl, h.symm⟩
theorem z21.sound (vs : List V) (p : Pack) (h : z21.pack vs = some p) : SoundC Tryz.prog 28 vs p := by
  obtain ⟨h0, a0, a1, rfl, rfl⟩ := z21.pk h
  exact top_sound z21.ctx z21.inlF fun28 (z21.loopsT (inl_ok z21.ctx z21.inlF 6)) rfl (z21.link a0 a1) z21.hdec
theorem fun91 : FunOK Tryz.prog 91 Tryz.f91 (ifun Tryz.f91).body := ⟨Tryz.func91, rfl, by kernel_rfl⟩
theorem once91 : loopsOnce (ifun Tryz.f91).body = true := by kernel_rfl
theorem z22.loopsT (hI : InlOK Tryz.prog z22.C fun R => z22.C.inlK 6) : LoopsOK z22.C (fun R => z22.C.inlK 6) 91 0 (ifun Tryz.f91).body := by
  intro id b hm st p hp
  obtain rfl := loopsOnce_mem once91 hm
  simp [z22.C] at hp
theorem z22.inlF : InlF Tryz.prog z22.C where
  prim g h hp := by simp [z22.C] at hp
  fn g fn h := by simp [z22.C] at h
  loops g fn h := by simp [z22.C] at h
theorem z22.ctx : CtxOK Tryz.prog z22.C where
  tab := tab_ok
  mixed := mixed_ok
  call g vs p _ _ h := by
    unfold z22.C at h; simp only at h; split at h
    · exact z20.sound vs p h
    · simp at h
  clone g e _ h := by
    simp [z22.C] at h
theorem z22.hdec : ∀ v r, z22.dec v = some r → relax3 v = z22.enc r ∧ imm3 (z22.enc r) = true := by
  intro v r h
  unfold z22.dec at h
  split at h
  case h_2 => simp at h
  simp only [Option.some.injEq] at h
  subst h
  exact ⟨rfl, rfl⟩
theorem z22.pk {vs : List V} {p : Pack} (h : z22.pack vs = some p) : ∃ (h0 : Bool) (a0 : List Int) (a1 : Bool), vs = [(.agg [(.ints h0 .u64 a0)]), (.bool a1)] ∧ p = ⟨(List Int) × Bool, z22.F a0 a1, z22.enc⟩ := by
  unfold z22.pack at h
  split at h
  case h_2 => simp at h
  simp only [Option.some.injEq] at h
  exact ⟨_, _, _, rfl, h.symm⟩
theorem z22.sound (vs : List V) (p : Pack) (h : z22.pack vs = some p) : SoundC Tryz.prog 91 vs p := by
  obtain ⟨h0, a0, a1, rfl, rfl⟩ := z22.pk h
  exact top_sound z22.ctx z22.inlF fun91 (z22.loopsT (inl_ok z22.ctx z22.inlF 6)) rfl (z22.link a0 a1) z22.hdec
theorem fun184 : FunOK Tryz.prog 184 Tryz.f184 (ifun Tryz.f184).body := ⟨Tryz.func184, rfl, by kernel_rfl⟩
theorem once184 : loopsOnce (ifun Tryz.f184).body = true := by kernel_rfl
theorem z23.loopsT (hI : InlOK Tryz.prog z23.C fun R => z23.C.inlK 6) : LoopsOK z23.C (fun R => z23.C.inlK 6) 184 0 (ifun Tryz.f184).body := by
  intro id b hm st p hp
  obtain rfl := loopsOnce_mem once184 hm
  simp [z23.C] at hp
theorem z23.inlF : InlF Tryz.prog z23.C where
  prim g h hp := by simp [z23.C] at hp
  fn g fn h := by simp [z23.C] at h
  loops g fn h := by simp [z23.C] at h
theorem z23.ctx : CtxOK Tryz.prog z23.C where
  tab := tab_ok
  mixed := mixed_ok
  call g vs p _ _ h := by
    simp [z23.C] at h
  clone g e _ h := by
    simp [z23.C] at h
theorem z23.hdec : ∀ v r, z23.dec v = some r → relax3 v = z23.enc r ∧ imm3 (z23.enc r) = true := by
  intro v r h
  unfold z23.dec at h
  split at h
  case h_2 => simp at h
  simp only [Option.some.injEq] at h
  subst h
  exact ⟨rfl, rfl⟩
theorem z23.pk {vs : List V} {p : Pack} (h : z23.pack vs = some p) : ∃ (h0 : Bool) (a0 : List Int) (a1 : Int), vs = [(.agg [(.ints h0 .u64 a0)]), (.int .i64 a1)] ∧ p = ⟨Int, z23.F a0 a1, z23.enc⟩ := by
  unfold z23.pack at h
  split at h
  case h_2 => simp at h
  simp only [Option.some.injEq] at h
  exact ⟨_, _, _, rfl, h.symm⟩
theorem z23.sound (vs : List V) (p : Pack) (h : z23.pack vs = some p) : SoundC Tryz.prog 184 vs p := by
  obtain ⟨h0, a0, a1, rfl, rfl⟩ := z23.pk h
  exact top_sound z23.ctx z23.inlF fun184 (z23.loopsT (inl_ok z23.ctx z23.inlF 6)) rfl (z23.link a0 a1) z23.hdec
def z24.l0b6un : List Leaf → Option Int
  | [.li _, .i n7002, .li _] => some n7002
  | _ => none
def z24.l0b6uo0 : List Leaf → Option (Int)
  | [.li _, .i y0, .li _] => some y0
  | _ => none
def z24.l0b6uo (p : X × Env × Store) : Option (Int) := (matchSt z24.l0b6so0 p.2).bind z24.l0b6uo0
def z24.l0b6enc (l7001 : List Int) (s7003 : List Int) (x' : Int) : Env × Store := fillSt z24.l0b6sh [.li l7001, .i x', .li s7003]
theorem z24.l0b6pk {ls : List Leaf} {p : LPack} (h : z24.l0b6pack ls = some p) : ∃ l7001 n7002 s7003, ls = [.li l7001, .i n7002, .li s7003] ∧ p = .one _ (z24.l0b6 l7001 n7002) (z24.l0b6out0 l7001 n7002 s7003) := by
  unfold z24.l0b6pack at h
  split at h
  case h_2 => simp at h
  simp only [Option.some.injEq] at h
  exact ⟨_, _, _, rfl, h.symm⟩
theorem z24.l0b6_sound (hI : InlOK Tryz.prog z24.C fun R => z24.C.inlK 6) (st : Env × Store) (p : LPack) (h : (matchSt z24.l0b6sh st).bind z24.l0b6pack = some p) : p.sound (z24.C.loopG (z24.C.inlK 6) 185 0 0 (loopAt 0 (ifun Tryz.f185).body) st.2.length) st := by
  obtain ⟨ls, h1, h2⟩ := Option.bind_eq_some_iff.1 h
  have h1 := matchSt_fill h1
  obtain ⟨l7001, n7002, s7003, rfl, rfl⟩ := z24.l0b6pk h2
  have hst : st = z24.l0b6enc l7001 s7003 n7002 := h1.symm.trans (by kernel_rfl)
  have hn : (z24.l0b6enc l7001 s7003 n7002).2.length = 1 := by kernel_rfl
  rw [hst, hn]
  intro o ho
  have key := lfp_sound (I := fun R => z24.C.inlK 6) hI (σ := Int) (τ := (Int)) (fid := 185) (id := 0) (base := 0) (n := 1) (b := (loopAt 0 (ifun Tryz.f185).body)) (F := fun R rec done x => z24.l0b6P l7001 rec done x) (enc := z24.l0b6enc l7001 s7003) (dec := fun st => (matchSt z24.l0b6sh st).bind z24.l0b6un) (out := z24.l0b6out0 l7001 n7002 s7003) (decO := z24.l0b6uo)
    (fun x => by kernel_rfl) (fun o => by kernel_rfl) (fun R k d x' => z24.l0b6_link R k d l7001 (x') s7003) (x := n7002) (o := o) ho
  exact key
theorem fun185 : FunOK Tryz.prog 185 Tryz.f185 (ifun Tryz.f185).body := ⟨Tryz.func185, rfl, by kernel_rfl⟩
theorem once185 : loopsOnce (ifun Tryz.f185).body = true := by kernel_rfl
theorem z24.loopsT (hI : InlOK Tryz.prog z24.C fun R => z24.C.inlK 6) : LoopsOK z24.C (fun R => z24.C.inlK 6) 185 0 (ifun Tryz.f185).body := by
  intro id b hm st p hp
  obtain rfl := loopsOnce_mem once185 hm
  unfold z24.C at hp
  simp only at hp
  try split at hp
  all_goals first
    | (simp at hp; done)
    | (exfalso; omega)
    | exact z24.l0b6_sound hI st p hp
theorem z24.inlF : InlF Tryz.prog z24.C where
  prim g h hp := by simp [z24.C] at hp
  fn g fn h := by simp [z24.C] at h
  loops g fn h := by simp [z24.C] at h
theorem z24.ctx : CtxOK Tryz.prog z24.C where
  tab := tab_ok
  mixed := mixed_ok
  call g vs p _ _ h := by
    simp [z24.C] at h
  clone g e _ h := by
    simp [z24.C] at h
theorem z24.hdec : ∀ v r, z24.dec v = some r → relax3 v = z24.enc r ∧ imm3 (z24.enc r) = true := by
  intro v r h
  unfold z24.dec at h
  split at h
  case h_2 => simp at h
  simp only [Option.some.injEq] at h
  subst h
  exact ⟨rfl, rfl⟩
theorem z24.pk {vs : List V} {p : Pack} (h : z24.pack vs = some p) : ∃ (h0 : Bool) (a0 : List Int), vs = [(.ints h0 .u64 a0)] ∧ p = ⟨(List Int), z24.F a0, z24.enc⟩ := by
  unfold z24.pack at h
  split at h
  case h_2 => simp at h
  simp only [Option.some.injEq] at h
  exact ⟨_, _, rfl, h.symm⟩
theorem z24.sound (vs : List V) (p : Pack) (h : z24.pack vs = some p) : SoundC Tryz.prog 185 vs p := by
  obtain ⟨h0, a0, rfl, rfl⟩ := z24.pk h
  exact top_sound z24.ctx z24.inlF fun185 (z24.loopsT (inl_ok z24.ctx z24.inlF 6)) rfl (z24.link a0) z24.hdec
def z25.l0un : List Leaf → Option (Int × Int × (List Int))
  | [.i carry1001, .i _, .i t1003, .li _, .li _, .li _, .li s1007] => some (carry1001, t1003, s1007)
  | _ => none
def z25.l0uo0 : List Leaf → Option (Int × Int × (List Int))
  | [.i y0, .i _, .i y1, .li _, .li _, .li _, .li y2] => some (y0, y1, y2)
  | _ => none
def z25.l0uo (p : X × Env × Store) : Option (Int × Int × (List Int)) := (matchSt z25.l0so0 p.2).bind z25.l0uo0
def z25.l0enc (t1002 : Int) (s1004 : List Int) (s1005 : List Int) (s1006 : List Int) (x' : (Int × Int × (List Int))) : Env × Store := fillSt z25.l0sh [.i x'.1, .i t1002, .i x'.2.1, .li s1004, .li s1005, .li s1006, .li x'.2.2]
theorem z25.l0pk {ls : List Leaf} {p : LPack} (h : z25.l0pack ls = some p) : ∃ carry1001 t1002 t1003 s1004 s1005 s1006 s1007, ls = [.i carry1001, .i t1002, .i t1003, .li s1004, .li s1005, .li s1006, .li s1007] ∧ p = .one _ (z25.l0 t1002 s1004 s1005 (carry1001, t1003, s1007)) (z25.l0out0 carry1001 t1002 t1003 s1004 s1005 s1006 s1007) := by
  unfold z25.l0pack at h
  split at h
  case h_2 => simp at h
  simp only [Option.some.injEq] at h
  exact ⟨_, _, _, _, _, _, _, rfl, h.symm⟩
theorem z25.l0_sound (hI : InlOK Tryz.prog z25.C fun R => z25.C.inlK 6) (st : Env × Store) (p : LPack) (h : (matchSt z25.l0sh st).bind z25.l0pack = some p) : p.sound (z25.C.loopG (z25.C.inlK 6) 99 0 0 (loopAt 0 (ifun Tryz.f99).body) st.2.length) st := by
  obtain ⟨ls, h1, h2⟩ := Option.bind_eq_some_iff.1 h
  have h1 := matchSt_fill h1
  obtain ⟨carry1001, t1002, t1003, s1004, s1005, s1006, s1007, rfl, rfl⟩ := z25.l0pk h2
  have hst : st = z25.l0enc t1002 s1004 s1005 s1006 (carry1001, t1003, s1007) := h1.symm.trans (by kernel_rfl)
  have hn : (z25.l0enc t1002 s1004 s1005 s1006 (carry1001, t1003, s1007)).2.length = 4 := by kernel_rfl
  rw [hst, hn]
  intro o ho
  have key := lfp_sound (I := fun R => z25.C.inlK 6) hI (σ := (Int × Int × (List Int))) (τ := (Int × Int × (List Int))) (fid := 99) (id := 0) (base := 0) (n := 4) (b := (loopAt 0 (ifun Tryz.f99).body)) (F := fun R rec done x => z25.l0P t1002 s1004 s1005 rec done x) (enc := z25.l0enc t1002 s1004 s1005 s1006) (dec := fun st => (matchSt z25.l0sh st).bind z25.l0un) (out := z25.l0out0 carry1001 t1002 t1003 s1004 s1005 s1006 s1007) (decO := z25.l0uo)
    (fun x => by kernel_rfl) (fun o => by kernel_rfl) (fun R k d x' => z25.l0_link R k d (x'.1) t1002 (x'.2.1) s1004 s1005 s1006 (x'.2.2)) (x := (carry1001, t1003, s1007)) (o := o) ho
  exact key
theorem fun99 : FunOK Tryz.prog 99 Tryz.f99 (ifun Tryz.f99).body := ⟨Tryz.func99, rfl, by kernel_rfl⟩
theorem once99 : loopsOnce (ifun Tryz.f99).body = true := by kernel_rfl
theorem z25.loopsT (hI : InlOK Tryz.prog z25.C fun R => z25.C.inlK 6) : LoopsOK z25.C (fun R => z25.C.inlK 6) 99 0 (ifun Tryz.f99).body := by
  intro id b hm st p hp
  obtain rfl := loopsOnce_mem once99 hm
  unfold z25.C at hp
  simp only at hp
  try split at hp
  all_goals first
    | (simp at hp; done)
    | (exfalso; omega)
    | exact z25.l0_sound hI st p hp
theorem z25.inlF : InlF Tryz.prog z25.C where
  prim g h hp := by simp [z25.C] at hp
  fn g fn h := by simp [z25.C] at h
  loops g fn h := by simp [z25.C] at h
theorem z25.ctx : CtxOK Tryz.prog z25.C where
  tab := tab_ok
  mixed := mixed_ok
  call g vs p _ _ h := by
    unfold z25.C at h; simp only at h; split at h
    · exact z23.sound vs p h
    · exact z0.sound vs p h
    · exact z24.sound vs p h
    · simp at h
  clone g e _ h := by
    simp [z25.C] at h
theorem z25.hdec : ∀ v r, z25.dec v = some r → relax3 v = z25.enc r ∧ imm3 (z25.enc r) = true := by
  intro v r h
  unfold z25.dec at h
  split at h
  case h_2 => simp at h
  simp only [Option.some.injEq] at h
  subst h
  exact ⟨rfl, rfl⟩
theorem z25.pk {vs : List V} {p : Pack} (h : z25.pack vs = some p) : ∃ (h0 : Bool) (h1 : Bool) (a0 : List Int) (a1 : List Int), vs = [(.agg [(.ints h0 .u64 a0)]), (.agg [(.ints h1 .u64 a1)])] ∧ p = ⟨(List Int), z25.F a0 a1, z25.enc⟩ := by
  unfold z25.pack at h
  split at h
  case h_2 => simp at h
  simp only [Option.some.injEq] at h
  exact ⟨_, _, _, _, rfl, h.symm⟩
theorem z25.sound (vs : List V) (p : Pack) (h : z25.pack vs = some p) : SoundC Tryz.prog 99 vs p := by
  obtain ⟨h0, h1, a0, a1, rfl, rfl⟩ := z25.pk h
  exact top_sound z25.ctx z25.inlF fun99 (z25.loopsT (inl_ok z25.ctx z25.inlF 6)) rfl (z25.link a0 a1) z25.hdec
theorem fun212 : FunOK Tryz.prog 212 Tryz.f212 (ifun Tryz.f212).body := ⟨Tryz.func212, rfl, by kernel_rfl⟩
theorem once212 : loopsOnce (ifun Tryz.f212).body = true := by kernel_rfl
theorem z26.loopsT (hI : InlOK Tryz.prog z26.C fun R => z26.C.inlK 6) : LoopsOK z26.C (fun R => z26.C.inlK 6) 212 0 (ifun Tryz.f212).body := by
  intro id b hm st p hp
  obtain rfl := loopsOnce_mem once212 hm
  simp [z26.C] at hp
theorem z26.inlF : InlF Tryz.prog z26.C where
  prim g h hp := by simp [z26.C] at hp
  fn g fn h := by simp [z26.C] at h
  loops g fn h := by simp [z26.C] at h
theorem z26.ctx : CtxOK Tryz.prog z26.C where
  tab := tab_ok
  mixed := mixed_ok
  call g vs p _ _ h := by
    simp [z26.C] at h
  clone g e _ h := by
    simp [z26.C] at h
theorem z26.hdec : ∀ v r, z26.dec v = some r → relax3 v = z26.enc r ∧ imm3 (z26.enc r) = true := by
  intro v r h
  unfold z26.dec at h
  split at h
  case h_2 => simp at h
  simp only [Option.some.injEq] at h
  subst h
  exact ⟨rfl, rfl⟩
theorem z26.pk {vs : List V} {p : Pack} (h : z26.pack vs = some p) : ∃ (a0 : Int), vs = [(.int .i64 a0)] ∧ p = ⟨Bool, z26.F a0, z26.enc⟩ := by
  unfold z26.pack at h
  split at h
  case h_2 => simp at h
  simp only [Option.some.injEq] at h
  exact ⟨_, rfl, h.symm⟩
theorem z26.sound (vs : List V) (p : Pack) (h : z26.pack vs = some p) : SoundC Tryz.prog 212 vs p := by
  obtain ⟨a0, rfl, rfl⟩ := z26.pk h
  exact top_sound z26.ctx z26.inlF fun212 (z26.loopsT (inl_ok z26.ctx z26.inlF 6)) rfl (z26.link a0) z26.hdec
theorem fun146 : FunOK Tryz.prog 146 Tryz.f146 (ifun Tryz.f146).body := ⟨Tryz.func146, rfl, by kernel_rfl⟩
theorem once146 : loopsOnce (ifun Tryz.f146).body = true := by kernel_rfl
theorem z27.loopsT (hI : InlOK Tryz.prog z27.C fun R => z27.C.inlK 6) : LoopsOK z27.C (fun R => z27.C.inlK 6) 146 0 (ifun Tryz.f146).body := by
  intro id b hm st p hp
  obtain rfl := loopsOnce_mem once146 hm
  simp [z27.C] at hp
theorem z27.inlF : InlF Tryz.prog z27.C where
  prim g h hp := by simp [z27.C] at hp
  fn g fn h := by simp [z27.C] at h
  loops g fn h := by simp [z27.C] at h
theorem z27.ctx : CtxOK Tryz.prog z27.C where
  tab := tab_ok
  mixed := mixed_ok
  call g vs p _ _ h := by
    unfold z27.C at h; simp only at h; split at h
    · exact z26.sound vs p h
    · simp at h
  clone g e _ h := by
    simp [z27.C] at h
theorem z27.hdec : ∀ v r, z27.dec v = some r → relax3 v = z27.enc r ∧ imm3 (z27.enc r) = true := by
  intro v r h
  unfold z27.dec at h
  split at h
  case h_2 => simp at h
  simp only [Option.some.injEq] at h
  subst h
  exact ⟨rfl, rfl⟩
theorem z27.pk {vs : List V} {p : Pack} (h : z27.pack vs = some p) : ∃ (a0 : Int) (a1 : Int), vs = [(.int .i64 a0), (.int .i64 a1)] ∧ p = ⟨Int, z27.F a0 a1, z27.enc⟩ := by
  unfold z27.pack at h
  split at h
  case h_2 => simp at h
  simp only [Option.some.injEq] at h
  exact ⟨_, _, rfl, h.symm⟩
theorem z27.sound (vs : List V) (p : Pack) (h : z27.pack vs = some p) : SoundC Tryz.prog 146 vs p := by
  obtain ⟨a0, a1, rfl, rfl⟩ := z27.pk h
  exact top_sound z27.ctx z27.inlF fun146 (z27.loopsT (inl_ok z27.ctx z27.inlF 6)) rfl (z27.link a0 a1) z27.hdec
theorem fun273 : FunOK Tryz.prog 273 Tryz.f273 (ifun Tryz.f273).body := ⟨Tryz.func273, rfl, by kernel_rfl⟩
theorem once273 : loopsOnce (ifun Tryz.f273).body = true := by kernel_rfl
theorem z28.loopsT (hI : InlOK Tryz.prog z28.C fun R => z28.C.inlK 6) : LoopsOK z28.C (fun R => z28.C.inlK 6) 273 0 (ifun Tryz.f273).body := by
  intro id b hm st p hp
  obtain rfl := loopsOnce_mem once273 hm
  simp [z28.C] at hp
theorem z28.inlF : InlF Tryz.prog z28.C where
  prim g h hp := by simp [z28.C] at hp
  fn g fn h := by simp [z28.C] at h
  loops g fn h := by simp [z28.C] at h
theorem z28.ctx : CtxOK Tryz.prog z28.C where
  tab := tab_ok
  mixed := mixed_ok
  call g vs p _ _ h := by
    simp [z28.C] at h
  clone g e _ h := by
    simp [z28.C] at h
theorem z28.hdec : ∀ v r, z28.dec v = some r → relax3 v = z28.enc r ∧ imm3 (z28.enc r) = true := by
  intro v r h
  unfold z28.dec at h
  split at h
  case h_2 => simp at h
  simp only [Option.some.injEq] at h
  subst h
  exact ⟨rfl, rfl⟩
theorem z28.pk {vs : List V} {p : Pack} (h : z28.pack vs = some p) : ∃ (a0 : Int), vs = [(.int .u64 a0)] ∧ p = ⟨Bool, z28.F a0, z28.enc⟩ := by
  unfold z28.pack at h
  split at h
  case h_2 => simp at h
  simp only [Option.some.injEq] at h
  exact ⟨_, rfl, h.symm⟩
theorem z28.sound (vs : List V) (p : Pack) (h : z28.pack vs = some p) : SoundC Tryz.prog 273 vs p := by
  obtain ⟨a0, rfl, rfl⟩ := z28.pk h
  exact top_sound z28.ctx z28.inlF fun273 (z28.loopsT (inl_ok z28.ctx z28.inlF 6)) rfl (z28.link a0) z28.hdec
theorem fun245 : FunOK Tryz.prog 245 Tryz.f245 (ifun Tryz.f245).body := ⟨Tryz.func245, rfl, by kernel_rfl⟩
theorem once245 : loopsOnce (ifun Tryz.f245).body = true := by kernel_rfl
theorem z29.loopsT (hI : InlOK Tryz.prog z29.C fun R => z29.C.inlK 6) : LoopsOK z29.C (fun R => z29.C.inlK 6) 245 0 (ifun Tryz.f245).body := by
  intro id b hm st p hp
  obtain rfl := loopsOnce_mem once245 hm
  simp [z29.C] at hp
theorem z29.inlF : InlF Tryz.prog z29.C where
  prim g h hp := by simp [z29.C] at hp
  fn g fn h := by simp [z29.C] at h
  loops g fn h := by simp [z29.C] at h
theorem z29.ctx : CtxOK Tryz.prog z29.C where
  tab := tab_ok
  mixed := mixed_ok
  call g vs p _ _ h := by
    unfold z29.C at h; simp only at h; split at h
    · exact z28.sound vs p h
    · simp at h
  clone g e _ h := by
    simp [z29.C] at h
theorem z29.hdec : ∀ v r, z29.dec v = some r → relax3 v = z29.enc r ∧ imm3 (z29.enc r) = true := by
  intro v r h
  unfold z29.dec at h
  split at h
  case h_2 => simp at h
  simp only [Option.some.injEq] at h
  subst h
  exact ⟨rfl, rfl⟩
theorem z29.pk {vs : List V} {p : Pack} (h : z29.pack vs = some p) : ∃ (a0 : Int) (a1 : Int), vs = [(.int .u64 a0), (.int .u64 a1)] ∧ p = ⟨Int, z29.F a0 a1, z29.enc⟩ := by
  unfold z29.pack at h
  split at h
  case h_2 => simp at h
  simp only [Option.some.injEq] at h
  exact ⟨_, _, rfl, h.symm⟩
theorem z29.sound (vs : List V) (p : Pack) (h : z29.pack vs = some p) : SoundC Tryz.prog 245 vs p := by
  obtain ⟨a0, a1, rfl, rfl⟩ := z29.pk h
  exact top_sound z29.ctx z29.inlF fun245 (z29.loopsT (inl_ok z29.ctx z29.inlF 6)) rfl (z29.link a0 a1) z29.hdec
def z30.l0un : List Leaf → Option Int
  | [.i _, .i i1002, .li _, .li _] => some i1002
  | _ => none
def z30.l0uo0 : List Leaf → Option (Int)
  | [.i _, .i y0, .li _, .li _] => some y0
  | _ => none
def z30.l0uo1 : List Leaf → Option (Int)
  | [.i y0, .li _, .li _] => some y0
  | _ => none
def z30.l0uo (p : X × Env × Store) : Option ((Int) ⊕ (Int)) := match p with
  | ((.exit 0), st) => ((matchSt z30.l0so0 st).bind z30.l0uo0).map .inl
  | (.ret, st) => ((matchSt z30.l0so1 st).bind z30.l0uo1).map .inr
  | _ => none
def z30.l0enc (t1001 : Int) (s1003 : List Int) (s1004 : List Int) (x' : Int) : Env × Store := fillSt z30.l0sh [.i t1001, .i x', .li s1003, .li s1004]
theorem z30.l0pk {ls : List Leaf} {p : LPack} (h : z30.l0pack ls = some p) : ∃ t1001 i1002 s1003 s1004, ls = [.i t1001, .i i1002, .li s1003, .li s1004] ∧ p = .two _ _ (z30.l0 s1003 s1004 i1002) (z30.l0out0 t1001 i1002 s1003 s1004) (z30.l0out1 t1001 i1002 s1003 s1004) := by
  unfold z30.l0pack at h
  split at h
  case h_2 => simp at h
  simp only [Option.some.injEq] at h
  exact ⟨_, _, _, _, rfl, h.symm⟩
theorem z30.l0_sound (hI : InlOK Tryz.prog z30.C fun R => z30.C.inlK 6) (st : Env × Store) (p : LPack) (h : (matchSt z30.l0sh st).bind z30.l0pack = some p) : p.sound (z30.C.loopG (z30.C.inlK 6) 186 0 0 (loopAt 0 (ifun Tryz.f186).body) st.2.length) st := by
  obtain ⟨ls, h1, h2⟩ := Option.bind_eq_some_iff.1 h
  have h1 := matchSt_fill h1
  obtain ⟨t1001, i1002, s1003, s1004, rfl, rfl⟩ := z30.l0pk h2
  have hst : st = z30.l0enc t1001 s1003 s1004 i1002 := h1.symm.trans (by kernel_rfl)
  have hn : (z30.l0enc t1001 s1003 s1004 i1002).2.length = 2 := by kernel_rfl
  rw [hst, hn]
  intro o ho
  have key := lfp_sound (I := fun R => z30.C.inlK 6) hI (σ := Int) (τ := ((Int) ⊕ (Int))) (fid := 186) (id := 0) (base := 0) (n := 2) (b := (loopAt 0 (ifun Tryz.f186).body)) (F := fun R rec done x => z30.l0P s1003 s1004 rec done x) (enc := z30.l0enc t1001 s1003 s1004) (dec := fun st => (matchSt z30.l0sh st).bind z30.l0un) (out := fun o => match o with | .inl o => z30.l0out0 t1001 i1002 s1003 s1004 o | .inr o => z30.l0out1 t1001 i1002 s1003 s1004 o) (decO := z30.l0uo)
    (fun x => by kernel_rfl) (fun o => by cases o <;> kernel_rfl) (fun R k d x' => (z30.l0_link R k d t1001 (x') s1003 s1004).trans (congrArg (fun dn => z30.l0P s1003 s1004 (fun x' => k (z30.l0enc t1001 s1003 s1004 x')) dn x') (funext fun o => by cases o <;> rfl))) (x := i1002) (o := o) ho
  cases o <;> exact key
theorem fun186 : FunOK Tryz.prog 186 Tryz.f186 (ifun Tryz.f186).body := ⟨Tryz.func186, rfl, by kernel_rfl⟩
theorem once186 : loopsOnce (ifun Tryz.f186).body = true := by kernel_rfl
theorem z30.loopsT (hI : InlOK Tryz.prog z30.C fun R => z30.C.inlK 6) : LoopsOK z30.C (fun R => z30.C.inlK 6) 186 0 (ifun Tryz.f186).body := by
  intro id b hm st p hp
  obtain rfl := loopsOnce_mem once186 hm
  unfold z30.C at hp
  simp only at hp
  try split at hp
  all_goals first
    | (simp at hp; done)
    | (exfalso; omega)
    | exact z30.l0_sound hI st p hp
theorem z30.inlF : InlF Tryz.prog z30.C where
  prim g h hp := by simp [z30.C] at hp
  fn g fn h := by simp [z30.C] at h
  loops g fn h := by simp [z30.C] at h
theorem z30.ctx : CtxOK Tryz.prog z30.C where
  tab := tab_ok
  mixed := mixed_ok
  call g vs p _ _ h := by
    unfold z30.C at h; simp only at h; split at h
    · exact z27.sound vs p h
    · exact z29.sound vs p h
    · simp at h
  clone g e _ h := by
    simp [z30.C] at h
theorem z30.hdec : ∀ v r, z30.dec v = some r → relax3 v = z30.enc r ∧ imm3 (z30.enc r) = true := by
  intro v r h
  unfold z30.dec at h
  split at h
  case h_2 => simp at h
  simp only [Option.some.injEq] at h
  subst h
  exact ⟨rfl, rfl⟩
theorem z30.pk {vs : List V} {p : Pack} (h : z30.pack vs = some p) : ∃ (h0 : Bool) (h1 : Bool) (a0 : List Int) (a1 : List Int), vs = [(.agg [(.ints h0 .u64 a0)]), (.agg [(.ints h1 .u64 a1)])] ∧ p = ⟨Int, z30.F a0 a1, z30.enc⟩ := by
  unfold z30.pack at h
  split at h
  case h_2 => simp at h
  simp only [Option.some.injEq] at h
  exact ⟨_, _, _, _, rfl, h.symm⟩
theorem z30.sound (vs : List V) (p : Pack) (h : z30.pack vs = some p) : SoundC Tryz.prog 186 vs p := by
  obtain ⟨h0, h1, a0, a1, rfl, rfl⟩ := z30.pk h
  exact top_sound z30.ctx z30.inlF fun186 (z30.loopsT (inl_ok z30.ctx z30.inlF 6)) rfl (z30.link a0 a1) z30.hdec
def z31.l0un : List Leaf → Option (Int × Int × (List Int))
  | [.b _, .i borrow1002, .i _, .i t1004, .li _, .li _, .li _, .li s1008] => some (borrow1002, t1004, s1008)
  | _ => none
def z31.l0uo0 : List Leaf → Option (Int × Int × (List Int))
  | [.b _, .i y0, .i _, .i y1, .li _, .li _, .li _, .li y2] => some (y0, y1, y2)
  | _ => none
def z31.l0uo (p : X × Env × Store) : Option (Int × Int × (List Int)) := (matchSt z31.l0so0 p.2).bind z31.l0uo0
def z31.l0enc (t1001 : Bool) (t1003 : Int) (s1005 : List Int) (s1006 : List Int) (s1007 : List Int) (x' : (Int × Int × (List Int))) : Env × Store := fillSt z31.l0sh [.b t1001, .i x'.1, .i t1003, .i x'.2.1, .li s1005, .li s1006, .li s1007, .li x'.2.2]
theorem z31.l0pk {ls : List Leaf} {p : LPack} (h : z31.l0pack ls = some p) : ∃ t1001 borrow1002 t1003 t1004 s1005 s1006 s1007 s1008, ls = [.b t1001, .i borrow1002, .i t1003, .i t1004, .li s1005, .li s1006, .li s1007, .li s1008] ∧ p = .one _ (z31.l0 t1003 s1005 s1006 (borrow1002, t1004, s1008)) (z31.l0out0 t1001 borrow1002 t1003 t1004 s1005 s1006 s1007 s1008) := by
  unfold z31.l0pack at h
  split at h
  case h_2 => simp at h
  simp only [Option.some.injEq] at h
  exact ⟨_, _, _, _, _, _, _, _, rfl, h.symm⟩
theorem z31.l0_sound (hI : InlOK Tryz.prog z31.C fun R => z31.C.inlK 6) (st : Env × Store) (p : LPack) (h : (matchSt z31.l0sh st).bind z31.l0pack = some p) : p.sound (z31.C.loopG (z31.C.inlK 6) 100 0 0 (loopAt 0 (ifun Tryz.f100).body) st.2.length) st := by
  obtain ⟨ls, h1, h2⟩ := Option.bind_eq_some_iff.1 h
  have h1 := matchSt_fill h1
  obtain ⟨t1001, borrow1002, t1003, t1004, s1005, s1006, s1007, s1008, rfl, rfl⟩ := z31.l0pk h2
  have hst : st = z31.l0enc t1001 t1003 s1005 s1006 s1007 (borrow1002, t1004, s1008) := h1.symm.trans (by kernel_rfl)
  have hn : (z31.l0enc t1001 t1003 s1005 s1006 s1007 (borrow1002, t1004, s1008)).2.length = 4 := by kernel_rfl
  rw [hst, hn]
  intro o ho
  have key := lfp_sound (I := fun R => z31.C.inlK 6) hI (σ := (Int × Int × (List Int))) (τ := (Int × Int × (List Int))) (fid := 100) (id := 0) (base := 0) (n := 4) (b := (loopAt 0 (ifun Tryz.f100).body)) (F := fun R rec done x => z31.l0P t1003 s1005 s1006 rec done x) (enc := z31.l0enc t1001 t1003 s1005 s1006 s1007) (dec := fun st => (matchSt z31.l0sh st).bind z31.l0un) (out := z31.l0out0 t1001 borrow1002 t1003 t1004 s1005 s1006 s1007 s1008) (decO := z31.l0uo)
    (fun x => by kernel_rfl) (fun o => by kernel_rfl) (fun R k d x' => z31.l0_link R k d t1001 (x'.1) t1003 (x'.2.1) s1005 s1006 s1007 (x'.2.2)) (x := (borrow1002, t1004, s1008)) (o := o) ho
  exact key
theorem fun100 : FunOK Tryz.prog 100 Tryz.f100 (ifun Tryz.f100).body := ⟨Tryz.func100, rfl, by kernel_rfl⟩
theorem once100 : loopsOnce (ifun Tryz.f100).body = true := by kernel_rfl
theorem z31.loopsT (hI : InlOK Tryz.prog z31.C fun R => z31.C.inlK 6) : LoopsOK z31.C (fun R => z31.C.inlK 6) 100 0 (ifun Tryz.f100).body := by
  intro id b hm st p hp
  obtain rfl := loopsOnce_mem once100 hm
  unfold z31.C at hp
  simp only at hp
  try split at hp
  all_goals first
    | (simp at hp; done)
    | (exfalso; omega)
    | exact z31.l0_sound hI st p hp
theorem z31.inlF : InlF Tryz.prog z31.C where
  prim g h hp := by simp [z31.C] at hp
  fn g fn h := by simp [z31.C] at h
  loops g fn h := by simp [z31.C] at h
theorem z31.ctx : CtxOK Tryz.prog z31.C where
  tab := tab_ok
  mixed := mixed_ok
  call g vs p _ _ h := by
    unfold z31.C at h; simp only at h; split at h
    · exact z30.sound vs p h
    · exact z23.sound vs p h
    · exact z1.sound vs p h
    · exact z24.sound vs p h
    · simp at h
  clone g e _ h := by
    simp [z31.C] at h
theorem z31.hdec : ∀ v r, z31.dec v = some r → relax3 v = z31.enc r ∧ imm3 (z31.enc r) = true := by
  intro v r h
  unfold z31.dec at h
  split at h
  case h_2 => simp at h
  simp only [Option.some.injEq] at h
  subst h
  exact ⟨rfl, rfl⟩
theorem z31.pk {vs : List V} {p : Pack} (h : z31.pack vs = some p) : ∃ (h0 : Bool) (h1 : Bool) (a0 : List Int) (a1 : List Int), vs = [(.agg [(.ints h0 .u64 a0)]), (.agg [(.ints h1 .u64 a1)])] ∧ p = ⟨(List Int) × Bool, z31.F a0 a1, z31.enc⟩ := by
  unfold z31.pack at h
  split at h
  case h_2 => simp at h
  simp only [Option.some.injEq] at h
  exact ⟨_, _, _, _, rfl, h.symm⟩
theorem z31.sound (vs : List V) (p : Pack) (h : z31.pack vs = some p) : SoundC Tryz.prog 100 vs p := by
  obtain ⟨h0, h1, a0, a1, rfl, rfl⟩ := z31.pk h
  exact top_sound z31.ctx z31.inlF fun100 (z31.loopsT (inl_ok z31.ctx z31.inlF 6)) rfl (z31.link a0 a1) z31.hdec
theorem fun24 : FunOK Tryz.prog 24 Tryz.f24 (ifun Tryz.f24).body := ⟨Tryz.func24, rfl, by kernel_rfl⟩
theorem once24 : loopsOnce (ifun Tryz.f24).body = true := by kernel_rfl
theorem z32.loopsT (hI : InlOK Tryz.prog z32.C fun R => z32.C.inlK 6) : LoopsOK z32.C (fun R => z32.C.inlK 6) 24 0 (ifun Tryz.f24).body := by
  intro id b hm st p hp
  obtain rfl := loopsOnce_mem once24 hm
  simp [z32.C] at hp
theorem z32.inlF : InlF Tryz.prog z32.C where
  prim g h hp := by simp [z32.C] at hp
  fn g fn h := by simp [z32.C] at h
  loops g fn h := by simp [z32.C] at h
theorem z32.ctx : CtxOK Tryz.prog z32.C where
  tab := tab_ok
  mixed := mixed_ok
  call g vs p _ _ h := by
    unfold z32.C at h; simp only at h; split at h
    · exact z25.sound vs p h
    · exact z22.sound vs p h
    · exact z31.sound vs p h
    · simp at h
  clone g e _ h := by
    simp [z32.C] at h
theorem z32.hdec : ∀ v r, z32.dec v = some r → relax3 v = z32.enc r ∧ imm3 (z32.enc r) = true := by
  intro v r h
  unfold z32.dec at h
  split at h
  case h_2 => simp at h
  simp only [Option.some.injEq] at h
  subst h
  exact ⟨rfl, rfl⟩
theorem z32.pk {vs : List V} {p : Pack} (h : z32.pack vs = some p) : ∃ (h0 : Bool) (h1 : Bool) (a0 : List Int) (a1 : Bool) (a2 : List Int) (a3 : Bool), vs = [(.agg [(.ints h0 .u64 a0), (.bool a1)]), (.agg [(.ints h1 .u64 a2), (.bool a3)])] ∧ p = ⟨(List Int) × Bool, z32.F a0 a1 a2 a3, z32.enc⟩ := by
  unfold z32.pack at h
  split at h
  case h_2 => simp at h
  simp only [Option.some.injEq] at h
  exact ⟨_, _, _, _, _, _, rfl, h.symm⟩
theorem z32.sound (vs : List V) (p : Pack) (h : z32.pack vs = some p) : SoundC Tryz.prog 24 vs p := by
  obtain ⟨h0, h1, a0, a1, a2, a3, rfl, rfl⟩ := z32.pk h
  exact top_sound z32.ctx z32.inlF fun24 (z32.loopsT (inl_ok z32.ctx z32.inlF 6)) rfl (z32.link a0 a1 a2 a3) z32.hdec
theorem fun110 : FunOK Tryz.prog 110 Tryz.f110 (ifun Tryz.f110).body := ⟨Tryz.func110, rfl, by kernel_rfl⟩
theorem once110 : loopsOnce (ifun Tryz.f110).body = true := by kernel_rfl
theorem z33.loopsT (hI : InlOK Tryz.prog z33.C fun R => z33.C.inlK 6) : LoopsOK z33.C (fun R => z33.C.inlK 6) 110 0 (ifun Tryz.f110).body := by
  intro id b hm st p hp
  obtain rfl := loopsOnce_mem once110 hm
  simp [z33.C] at hp
theorem z33.inlF : InlF Tryz.prog z33.C where
  prim g h hp := by simp [z33.C] at hp
  fn g fn h := by simp [z33.C] at h
  loops g fn h := by simp [z33.C] at h
theorem z33.ctx : CtxOK Tryz.prog z33.C where
  tab := tab_ok
  mixed := mixed_ok
  call g vs p _ _ h := by
    unfold z33.C at h; simp only at h; split at h
    · exact z22.sound vs p h
    · simp at h
  clone g e _ h := by
    simp [z33.C] at h
theorem z33.hdec : ∀ v r, z33.dec v = some r → relax3 v = z33.enc r ∧ imm3 (z33.enc r) = true := by
  intro v r h
  unfold z33.dec at h
  split at h
  case h_2 => simp at h
  simp only [Option.some.injEq] at h
  subst h
  exact ⟨rfl, rfl⟩
theorem z33.pk {vs : List V} {p : Pack} (h : z33.pack vs = some p) : ∃ (h0 : Bool) (a0 : List Int) (a1 : Bool), vs = [(.agg [(.ints h0 .u64 a0), (.bool a1)])] ∧ p = ⟨(List Int) × Bool, z33.F a0 a1, z33.enc⟩ := by
  unfold z33.pack at h
  split at h
  case h_2 => simp at h
  simp only [Option.some.injEq] at h
  exact ⟨_, _, _, rfl, h.symm⟩
theorem z33.sound (vs : List V) (p : Pack) (h : z33.pack vs = some p) : SoundC Tryz.prog 110 vs p := by
  obtain ⟨h0, a0, a1, rfl, rfl⟩ := z33.pk h
  exact top_sound z33.ctx z33.inlF fun110 (z33.loopsT (inl_ok z33.ctx z33.inlF 6)) rfl (z33.link a0 a1) z33.hdec
theorem fun90 : FunOK Tryz.prog 90 Tryz.f90 (ifun Tryz.f90).body := ⟨Tryz.func90, rfl, by kernel_rfl⟩
theorem once90 : loopsOnce (ifun Tryz.f90).body = true := by kernel_rfl
theorem z34.loopsT (hI : InlOK Tryz.prog z34.C fun R => z34.C.inlK 6) : LoopsOK z34.C (fun R => z34.C.inlK 6) 90 0 (ifun Tryz.f90).body := by
  intro id b hm st p hp
  obtain rfl := loopsOnce_mem once90 hm
  simp [z34.C] at hp
theorem z34.inlF : InlF Tryz.prog z34.C where
  prim g h hp := by simp [z34.C] at hp
  fn g fn h := by simp [z34.C] at h
  loops g fn h := by simp [z34.C] at h
theorem z34.ctx : CtxOK Tryz.prog z34.C where
  tab := tab_ok
  mixed := mixed_ok
  call g vs p _ _ h := by
    unfold z34.C at h; simp only at h; split at h
    · exact z33.sound vs p h
    · exact z32.sound vs p h
    · simp at h
  clone g e _ h := by
    simp [z34.C] at h
theorem z34.hdec : ∀ v r, z34.dec v = some r → relax3 v = z34.enc r ∧ imm3 (z34.enc r) = true := by
  intro v r h
  unfold z34.dec at h
  split at h
  case h_2 => simp at h
  simp only [Option.some.injEq] at h
  subst h
  exact ⟨rfl, rfl⟩
theorem z34.pk {vs : List V} {p : Pack} (h : z34.pack vs = some p) : ∃ (h0 : Bool) (h1 : Bool) (a0 : List Int) (a1 : Bool) (a2 : List Int) (a3 : Bool), vs = [(.agg [(.ints h0 .u64 a0), (.bool a1)]), (.agg [(.ints h1 .u64 a2), (.bool a3)])] ∧ p = ⟨(List Int) × Bool, z34.F a0 a1 a2 a3, z34.enc⟩ := by
  unfold z34.pack at h
  split at h
  case h_2 => simp at h
  simp only [Option.some.injEq] at h
  exact ⟨_, _, _, _, _, _, rfl, h.symm⟩
theorem z34.sound (vs : List V) (p : Pack) (h : z34.pack vs = some p) : SoundC Tryz.prog 90 vs p := by
  obtain ⟨h0, h1, a0, a1, a2, a3, rfl, rfl⟩ := z34.pk h
  exact top_sound z34.ctx z34.inlF fun90 (z34.loopsT (inl_ok z34.ctx z34.inlF 6)) rfl (z34.link a0 a1 a2 a3) z34.hdec
theorem fun74 : FunOK Tryz.prog 74 Tryz.f74 (ifun Tryz.f74).body := ⟨Tryz.func74, rfl, by kernel_rfl⟩
theorem once74 : loopsOnce (ifun Tryz.f74).body = true := by kernel_rfl
theorem z35.loopsT (hI : InlOK Tryz.prog z35.C fun R => z35.C.inlK 6) : LoopsOK z35.C (fun R => z35.C.inlK 6) 74 0 (ifun Tryz.f74).body := by
  intro id b hm st p hp
  obtain rfl := loopsOnce_mem once74 hm
  simp [z35.C] at hp
theorem z35.inlF : InlF Tryz.prog z35.C where
  prim g h hp := by simp [z35.C] at hp
  fn g fn h := by simp [z35.C] at h
  loops g fn h := by simp [z35.C] at h
theorem z35.ctx : CtxOK Tryz.prog z35.C where
  tab := tab_ok
  mixed := mixed_ok
  call g vs p _ _ h := by
    unfold z35.C at h; simp only at h; split at h
    · exact z34.sound vs p h
    · exact z21.sound vs p h
    · simp at h
  clone g e _ h := by
    simp [z35.C] at h
theorem z35.hdec : ∀ v r, z35.dec v = some r → relax3 v = z35.enc r ∧ imm3 (z35.enc r) = true := by
  intro v r h
  unfold z35.dec at h
  split at h
  case h_2 => simp at h
  simp only [Option.some.injEq] at h
  subst h
  exact ⟨rfl, rfl⟩
theorem z35.pk {vs : List V} {p : Pack} (h : z35.pack vs = some p) : ∃ (h0 : Bool) (h1 : Bool) (a0 : List Int) (a1 : Bool) (a2 : List Int) (a3 : Bool), vs = [(.agg [(.ints h0 .u64 a0), (.bool a1)]), (.agg [(.ints h1 .u64 a2), (.bool a3)])] ∧ p = ⟨Int, z35.F a0 a1 a2 a3, z35.enc⟩ := by
  unfold z35.pack at h
  split at h
  case h_2 => simp at h
  simp only [Option.some.injEq] at h
  exact ⟨_, _, _, _, _, _, rfl, h.symm⟩
theorem z35.sound (vs : List V) (p : Pack) (h : z35.pack vs = some p) : SoundC Tryz.prog 74 vs p := by
  obtain ⟨h0, h1, a0, a1, a2, a3, rfl, rfl⟩ := z35.pk h
  exact top_sound z35.ctx z35.inlF fun74 (z35.loopsT (inl_ok z35.ctx z35.inlF 6)) rfl (z35.link a0 a1 a2 a3) z35.hdec
theorem fun260 : FunOK Tryz.prog 260 Tryz.f260 (ifun Tryz.f260).body := ⟨Tryz.func260, rfl, by kernel_rfl⟩
theorem once260 : loopsOnce (ifun Tryz.f260).body = true := by kernel_rfl
theorem z36.loopsT (hI : InlOK Tryz.prog z36.C fun R => z36.C.inlK 6) : LoopsOK z36.C (fun R => z36.C.inlK 6) 260 0 (ifun Tryz.f260).body := by
  intro id b hm st p hp
  obtain rfl := loopsOnce_mem once260 hm
  simp [z36.C] at hp
theorem z36.inlF : InlF Tryz.prog z36.C where
  prim g h hp := by simp [z36.C] at hp
  fn g fn h := by simp [z36.C] at h
  loops g fn h := by simp [z36.C] at h
theorem z36.ctx : CtxOK Tryz.prog z36.C where
  tab := tab_ok
  mixed := mixed_ok
  call g vs p _ _ h := by
    simp [z36.C] at h
  clone g e _ h := by
    simp [z36.C] at h
theorem z36.hdec : ∀ v r, z36.dec v = some r → relax3 v = z36.enc r ∧ imm3 (z36.enc r) = true := by
  intro v r h
  unfold z36.dec at h
  split at h
  case h_2 => simp at h
  simp only [Option.some.injEq] at h
  subst h
  exact ⟨rfl, rfl⟩
theorem z36.pk {vs : List V} {p : Pack} (h : z36.pack vs = some p) : ∃ (a0 : List UInt8) (a1 : List UInt8), vs = [(.str a0), (.str a1)] ∧ p = ⟨Bool, z36.F a0 a1, z36.enc⟩ := by
  unfold z36.pack at h
  split at h
  case h_2 => simp at h
  simp only [Option.some.injEq] at h
  exact ⟨_, _, rfl, h.symm⟩
theorem z36.sound (vs : List V) (p : Pack) (h : z36.pack vs = some p) : SoundC Tryz.prog 260 vs p := by
  obtain ⟨a0, a1, rfl, rfl⟩ := z36.pk h
  exact top_sound z36.ctx z36.inlF fun260 (z36.loopsT (inl_ok z36.ctx z36.inlF 6)) rfl (z36.link a0 a1) z36.hdec
theorem fun223 : FunOK Tryz.prog 223 Tryz.f223 (ifun Tryz.f223).body := ⟨Tryz.func223, rfl, by kernel_rfl⟩
theorem once223 : loopsOnce (ifun Tryz.f223).body = true := by kernel_rfl
theorem z37.loopsT (hI : InlOK Tryz.prog z37.C fun R => z37.C.inlK 6) : LoopsOK z37.C (fun R => z37.C.inlK 6) 223 0 (ifun Tryz.f223).body := by
  intro id b hm st p hp
  obtain rfl := loopsOnce_mem once223 hm
  simp [z37.C] at hp
theorem z37.inlF : InlF Tryz.prog z37.C where
  prim g h hp := by simp [z37.C] at hp
  fn g fn h := by simp [z37.C] at h
  loops g fn h := by simp [z37.C] at h
theorem z37.ctx : CtxOK Tryz.prog z37.C where
  tab := tab_ok
  mixed := mixed_ok
  call g vs p _ _ h := by
    unfold z37.C at h; simp only at h; split at h
    · exact z36.sound vs p h
    · simp at h
  clone g e _ h := by
    simp [z37.C] at h
theorem z37.hdec : ∀ v r, z37.dec v = some r → relax3 v = z37.enc r ∧ imm3 (z37.enc r) = true := by
  intro v r h
  unfold z37.dec at h
  split at h
  case h_2 => simp at h
  simp only [Option.some.injEq] at h
  subst h
  exact ⟨rfl, rfl⟩
theorem z37.pk {vs : List V} {p : Pack} (h : z37.pack vs = some p) : ∃ (a0 : List UInt8) (a1 : List UInt8), vs = [(.str a0), (.str a1)] ∧ p = ⟨(List UInt8) × Bool, z37.F a0 a1, z37.enc⟩ := by
  unfold z37.pack at h
  split at h
  case h_2 => simp at h
  simp only [Option.some.injEq] at h
  exact ⟨_, _, rfl, h.symm⟩
theorem z37.sound (vs : List V) (p : Pack) (h : z37.pack vs = some p) : SoundC Tryz.prog 223 vs p := by
  obtain ⟨a0, a1, rfl, rfl⟩ := z37.pk h
  exact top_sound z37.ctx z37.inlF fun223 (z37.loopsT (inl_ok z37.ctx z37.inlF 6)) rfl (z37.link a0 a1) z37.hdec
theorem fun160 : FunOK Tryz.prog 160 Tryz.f160 (ifun Tryz.f160).body := ⟨Tryz.func160, rfl, by kernel_rfl⟩
theorem once160 : loopsOnce (ifun Tryz.f160).body = true := by kernel_rfl
theorem z38.loopsT (hI : InlOK Tryz.prog z38.C fun R => z38.C.inlK 6) : LoopsOK z38.C (fun R => z38.C.inlK 6) 160 0 (ifun Tryz.f160).body := by
  intro id b hm st p hp
  obtain rfl := loopsOnce_mem once160 hm
  simp [z38.C] at hp
theorem z38.inlF : InlF Tryz.prog z38.C where
  prim g h hp := by simp [z38.C] at hp
  fn g fn h := by simp [z38.C] at h
  loops g fn h := by simp [z38.C] at h
theorem z38.ctx : CtxOK Tryz.prog z38.C where
  tab := tab_ok
  mixed := mixed_ok
  call g vs p _ _ h := by
    unfold z38.C at h; simp only at h; split at h
    · exact z37.sound vs p h
    · simp at h
  clone g e _ h := by
    simp [z38.C] at h
theorem z38.hdec : ∀ v r, z38.dec v = some r → relax3 v = z38.enc r ∧ imm3 (z38.enc r) = true := by
  intro v r h
  unfold z38.dec at h
  split at h
  case h_2 => simp at h
  simp only [Option.some.injEq] at h
  subst h
  exact ⟨rfl, rfl⟩
theorem z38.pk {vs : List V} {p : Pack} (h : z38.pack vs = some p) : ∃ (a0 : List UInt8) (a1 : List UInt8), vs = [(.str a0), (.str a1)] ∧ p = ⟨(List UInt8) × Bool, z38.F a0 a1, z38.enc⟩ := by
  unfold z38.pack at h
  split at h
  case h_2 => simp at h
  simp only [Option.some.injEq] at h
  exact ⟨_, _, rfl, h.symm⟩
theorem z38.sound (vs : List V) (p : Pack) (h : z38.pack vs = some p) : SoundC Tryz.prog 160 vs p := by
  obtain ⟨a0, a1, rfl, rfl⟩ := z38.pk h
  exact top_sound z38.ctx z38.inlF fun160 (z38.loopsT (inl_ok z38.ctx z38.inlF 6)) rfl (z38.link a0 a1) z38.hdec
theorem fun158 : FunOK Tryz.prog 158 Tryz.f158 (ifun Tryz.f158).body := ⟨Tryz.func158, rfl, by kernel_rfl⟩
theorem once158 : loopsOnce (ifun Tryz.f158).body = true := by kernel_rfl
theorem z39.loopsT (hI : InlOK Tryz.prog z39.C fun R => z39.C.inlK 6) : LoopsOK z39.C (fun R => z39.C.inlK 6) 158 0 (ifun Tryz.f158).body := by
  intro id b hm st p hp
  obtain rfl := loopsOnce_mem once158 hm
  simp [z39.C] at hp
theorem prim222 : SoundP Tryz.prog 222 (cloneP (.ints true .u64 []) 79 8) := clone_sound (C := tabC) tab_ok (f := Tryz.f222) (t := 35) ⟨Tryz.func222, rfl, by kernel_rfl⟩ rfl (by decide) (by kernel_rfl) (by kernel_rfl) (by kernel_rfl) (by decide) (by kernel_rfl) rfl rfl (by kernel_rfl)
theorem z39.inlF : InlF Tryz.prog z39.C where
  prim g h hp := by
    unfold z39.C at hp; simp only at hp; split at hp
    · simp only [Option.some.injEq] at hp; subst hp; exact prim222
    · simp at hp
  fn g fn h := by simp [z39.C] at h
  loops g fn h := by simp [z39.C] at h
theorem z39.ctx : CtxOK Tryz.prog z39.C where
  tab := tab_ok
  mixed := mixed_ok
  call g vs p _ _ h := by
    unfold z39.C at h; simp only at h; split at h
    · exact z24.sound vs p h
    · simp at h
  clone g e _ h := by
    simp [z39.C] at h
theorem z39.hdec : ∀ v r, z39.dec v = some r → relax3 v = z39.enc r ∧ imm3 (z39.enc r) = true := by
  intro v r h
  unfold z39.dec at h
  split at h
  case h_2 => simp at h
  simp only [Option.some.injEq] at h
  subst h
  exact ⟨rfl, rfl⟩
theorem z39.pk {vs : List V} {p : Pack} (h : z39.pack vs = some p) : ∃ (h0 : Bool) (a0 : List Int), vs = [(.ints h0 .u64 a0)] ∧ p = ⟨(List Int), z39.F a0, z39.enc⟩ := by
  unfold z39.pack at h
  split at h
  case h_2 => simp at h
  simp only [Option.some.injEq] at h
  exact ⟨_, _, rfl, h.symm⟩
theorem z39.sound (vs : List V) (p : Pack) (h : z39.pack vs = some p) : SoundC Tryz.prog 158 vs p := by
  obtain ⟨h0, a0, rfl, rfl⟩ := z39.pk h
  exact top_sound z39.ctx z39.inlF fun158 (z39.loopsT (inl_ok z39.ctx z39.inlF 6)) rfl (z39.link a0) z39.hdec
theorem fun268 : FunOK Tryz.prog 268 Tryz.f268 (ifun Tryz.f268).body := ⟨Tryz.func268, rfl, by kernel_rfl⟩
theorem once268 : loopsOnce (ifun Tryz.f268).body = true := by kernel_rfl
theorem z40.loopsT (hI : InlOK Tryz.prog z40.C fun R => z40.C.inlK 6) : LoopsOK z40.C (fun R => z40.C.inlK 6) 268 0 (ifun Tryz.f268).body := by
  intro id b hm st p hp
  obtain rfl := loopsOnce_mem once268 hm
  simp [z40.C] at hp
theorem z40.inlF : InlF Tryz.prog z40.C where
  prim g h hp := by simp [z40.C] at hp
  fn g fn h := by simp [z40.C] at h
  loops g fn h := by simp [z40.C] at h
theorem z40.ctx : CtxOK Tryz.prog z40.C where
  tab := tab_ok
  mixed := mixed_ok
  call g vs p _ _ h := by
    simp [z40.C] at h
  clone g e _ h := by
    simp [z40.C] at h
theorem z40.hdec : ∀ v r, z40.dec v = some r → relax3 v = z40.enc r ∧ imm3 (z40.enc r) = true := by
  intro v r h
  unfold z40.dec at h
  split at h
  case h_2 => simp at h
  simp only [Option.some.injEq] at h
  subst h
  exact ⟨rfl, rfl⟩
theorem z40.pk {vs : List V} {p : Pack} (h : z40.pack vs = some p) : ∃ (a0 : Int) (a1 : Int), vs = [(.int .u64 a0), (.int .u64 a1)] ∧ p = ⟨Int × Int, z40.F a0 a1, z40.enc⟩ := by
  unfold z40.pack at h
  split at h
  case h_2 => simp at h
  simp only [Option.some.injEq] at h
  exact ⟨_, _, rfl, h.symm⟩
theorem z40.sound (vs : List V) (p : Pack) (h : z40.pack vs = some p) : SoundC Tryz.prog 268 vs p := by
  obtain ⟨a0, a1, rfl, rfl⟩ := z40.pk h
  exact top_sound z40.ctx z40.inlF fun268 (z40.loopsT (inl_ok z40.ctx z40.inlF 6)) rfl (z40.link a0 a1) z40.hdec
def z41.l0aun : List Leaf → Option (Int × Int × (List Int))
  | [.i _, .n _, .n _, .i carry2004, .li _, .i _, .i t2007, .li _, .li _, .li s2010, .li _] => some (carry2004, t2007, s2010)
  | _ => none
def z41.l0auo0 : List Leaf → Option (Int × Int × (List Int))
  | [.i _, .n _, .n _, .i y0, .li _, .i _, .i y1, .li _, .li _, .li y2, .li _] => some (y0, y1, y2)
  | _ => none
def z41.l0auo (p : X × Env × Store) : Option (Int × Int × (List Int)) := (matchSt z41.l0aso0 p.2).bind z41.l0auo0
def z41.l0aenc (x2001 : Int) (l2002 : Nat) (l2003 : Nat) (t2005 : List Int) (t2006 : Int) (s2008 : List Int) (s2009 : List Int) (s2011 : List Int) (x' : (Int × Int × (List Int))) : Env × Store := fillSt z41.l0ash [.i x2001, .n l2002, .n l2003, .i x'.1, .li t2005, .i t2006, .i x'.2.1, .li s2008, .li s2009, .li x'.2.2, .li s2011]
theorem z41.l0apk {ls : List Leaf} {p : LPack} (h : z41.l0apack ls = some p) : ∃ x2001 l2002 l2003 carry2004 t2005 t2006 t2007 s2008 s2009 s2010 s2011, ls = [.i x2001, .n l2002, .n l2003, .i carry2004, .li t2005, .i t2006, .i t2007, .li s2008, .li s2009, .li s2010, .li s2011] ∧ p = .one _ (z41.l0a x2001 l2002 l2003 t2005 t2006 (carry2004, t2007, s2010)) (z41.l0aout0 x2001 l2002 l2003 carry2004 t2005 t2006 t2007 s2008 s2009 s2010 s2011) := by
  unfold z41.l0apack at h
  split at h
  case h_2 => simp at h
  simp only [Option.some.injEq] at h
  exact ⟨_, _, _, _, _, _, _, _, _, _, _, rfl, h.symm⟩
theorem z41.l0a_sound (hI : InlOK Tryz.prog z41.C fun R => z41.C.inlK 0) (st : Env × Store) (p : LPack) (h : (matchSt z41.l0ash st).bind z41.l0apack = some p) : p.sound (z41.C.loopG (z41.C.inlK 0) 227 0 4 (loopAt 0 (ifun Tryz.f227).body) st.2.length) st := by
  obtain ⟨ls, h1, h2⟩ := Option.bind_eq_some_iff.1 h
  have h1 := matchSt_fill h1
  obtain ⟨x2001, l2002, l2003, carry2004, t2005, t2006, t2007, s2008, s2009, s2010, s2011, rfl, rfl⟩ := z41.l0apk h2
  have hst : st = z41.l0aenc x2001 l2002 l2003 t2005 t2006 s2008 s2009 s2011 (carry2004, t2007, s2010) := h1.symm.trans (by kernel_rfl)
  have hn : (z41.l0aenc x2001 l2002 l2003 t2005 t2006 s2008 s2009 s2011 (carry2004, t2007, s2010)).2.length = 5 := by kernel_rfl
  rw [hst, hn]
  intro o ho
  have key := lfp_sound (I := fun R => z41.C.inlK 0) hI (σ := (Int × Int × (List Int))) (τ := (Int × Int × (List Int))) (fid := 227) (id := 0) (base := 4) (n := 5) (b := (loopAt 0 (ifun Tryz.f227).body)) (F := fun R rec done x => z41.l0aP x2001 l2002 l2003 t2005 t2006 rec done x) (enc := z41.l0aenc x2001 l2002 l2003 t2005 t2006 s2008 s2009 s2011) (dec := fun st => (matchSt z41.l0ash st).bind z41.l0aun) (out := z41.l0aout0 x2001 l2002 l2003 carry2004 t2005 t2006 t2007 s2008 s2009 s2010 s2011) (decO := z41.l0auo)
    (fun x => by kernel_rfl) (fun o => by kernel_rfl) (fun R k d x' => z41.l0a_link R k d x2001 l2002 l2003 (x'.1) t2005 t2006 (x'.2.1) s2008 s2009 (x'.2.2) s2011) (x := (carry2004, t2007, s2010)) (o := o) ho
  exact key
def z41.l0un : List Leaf → Option (Int × (List Int))
  | [.li _, .i _, .i t1003, .li _, .li _, .li s1006] => some (t1003, s1006)
  | _ => none
def z41.l0uo0 : List Leaf → Option (Int × (List Int))
  | [.li _, .i _, .i y0, .li _, .li _, .li y1] => some (y0, y1)
  | _ => none
def z41.l0uo (p : X × Env × Store) : Option (Int × (List Int)) := (matchSt z41.l0so0 p.2).bind z41.l0uo0
def z41.l0enc (t1001 : List Int) (t1002 : Int) (s1004 : List Int) (s1005 : List Int) (x' : (Int × (List Int))) : Env × Store := fillSt z41.l0sh [.li t1001, .i t1002, .i x'.1, .li s1004, .li s1005, .li x'.2]
theorem z41.l0pk {ls : List Leaf} {p : LPack} (h : z41.l0pack ls = some p) : ∃ t1001 t1002 t1003 s1004 s1005 s1006, ls = [.li t1001, .i t1002, .i t1003, .li s1004, .li s1005, .li s1006] ∧ p = .one _ (z41.l0 t1001 t1002 s1004 (t1003, s1006)) (z41.l0out0 t1001 t1002 t1003 s1004 s1005 s1006) := by
  unfold z41.l0pack at h
  split at h
  case h_2 => simp at h
  simp only [Option.some.injEq] at h
  exact ⟨_, _, _, _, _, _, rfl, h.symm⟩
theorem z41.l0_sound (hI : InlOK Tryz.prog z41.C fun R => z41.C.inlK 6) (st : Env × Store) (p : LPack) (h : (matchSt z41.l0sh st).bind z41.l0pack = some p) : p.sound (z41.C.loopG (z41.C.inlK 6) 164 0 0 (loopAt 0 (ifun Tryz.f164).body) st.2.length) st := by
  obtain ⟨ls, h1, h2⟩ := Option.bind_eq_some_iff.1 h
  have h1 := matchSt_fill h1
  obtain ⟨t1001, t1002, t1003, s1004, s1005, s1006, rfl, rfl⟩ := z41.l0pk h2
  have hst : st = z41.l0enc t1001 t1002 s1004 s1005 (t1003, s1006) := h1.symm.trans (by kernel_rfl)
  have hn : (z41.l0enc t1001 t1002 s1004 s1005 (t1003, s1006)).2.length = 4 := by kernel_rfl
  rw [hst, hn]
  intro o ho
  have key := lfp_sound (I := fun R => z41.C.inlK 6) hI (σ := (Int × (List Int))) (τ := (Int × (List Int))) (fid := 164) (id := 0) (base := 0) (n := 4) (b := (loopAt 0 (ifun Tryz.f164).body)) (F := fun R rec done x => z41.l0P t1001 t1002 s1004 rec done x) (enc := z41.l0enc t1001 t1002 s1004 s1005) (dec := fun st => (matchSt z41.l0sh st).bind z41.l0un) (out := z41.l0out0 t1001 t1002 t1003 s1004 s1005 s1006) (decO := z41.l0uo)
    (fun x => by kernel_rfl) (fun o => by kernel_rfl) (fun R k d x' => z41.l0_link R k d t1001 t1002 (x'.1) s1004 s1005 (x'.2)) (x := (t1003, s1006)) (o := o) ho
  exact key
theorem fun164 : FunOK Tryz.prog 164 Tryz.f164 (ifun Tryz.f164).body := ⟨Tryz.func164, rfl, by kernel_rfl⟩
theorem once164 : loopsOnce (ifun Tryz.f164).body = true := by kernel_rfl
theorem fun227 : FunOK Tryz.prog 227 Tryz.f227 (ifun Tryz.f227).body := ⟨Tryz.func227, rfl, by kernel_rfl⟩
theorem once227 : loopsOnce (ifun Tryz.f227).body = true := by kernel_rfl
theorem z41.loopsT (hI : InlOK Tryz.prog z41.C fun R => z41.C.inlK 6) : LoopsOK z41.C (fun R => z41.C.inlK 6) 164 0 (ifun Tryz.f164).body := by
  intro id b hm st p hp
  obtain rfl := loopsOnce_mem once164 hm
  unfold z41.C at hp
  simp only at hp
  try split at hp
  all_goals first
    | (simp at hp; done)
    | (exfalso; omega)
    | exact z41.l0_sound hI st p hp
theorem z41.loops227 (hI : InlOK Tryz.prog z41.C fun R => z41.C.inlK 0) (base : Nat) : LoopsOK z41.C (fun R => z41.C.inlK 0) 227 base (ifun Tryz.f227).body := by
  intro id b hm st p hp
  obtain rfl := loopsOnce_mem once227 hm
  unfold z41.C at hp
  simp only at hp
  try split at hp
  all_goals first
    | (simp at hp; done)
    | (exfalso; omega)
    | exact z41.l0a_sound hI st p hp
theorem z41.inlF : InlF Tryz.prog z41.C where
  prim g h hp := by simp [z41.C] at hp
  fn g fn h := by
    unfold z41.C at h; simp only at h; split at h
    · simp only [Option.some.injEq] at h; subst h; exact ⟨_, _, fun227, rfl⟩
    · simp at h
  loops g fn h := by
    unfold z41.C at h; simp only at h; split at h
    · simp only [Option.some.injEq] at h; subst h; exact fun hI base => z41.loops227 hI base
    · simp at h
theorem z41.ctx : CtxOK Tryz.prog z41.C where
  tab := tab_ok
  mixed := mixed_ok
  call g vs p _ _ h := by
    unfold z41.C at h; simp only at h; split at h
    · exact z40.sound vs p h
    · exact z0.sound vs p h
    · exact z24.sound vs p h
    · simp at h
  clone g e _ h := by
    simp [z41.C] at h
theorem z41.hdec : ∀ v r, z41.dec v = some r → relax3 v = z41.enc r ∧ imm3 (z41.enc r) = true := by
  intro v r h
  unfold z41.dec at h
  split at h
  case h_2 => simp at h
  simp only [Option.some.injEq] at h
  subst h
  exact ⟨rfl, rfl⟩
theorem z41.pk {vs : List V} {p : Pack} (h : z41.pack vs = some p) : ∃ (h0 : Bool) (h1 : Bool) (a0 : List Int) (a1 : List Int), vs = [(.agg [(.ints h0 .u64 a0)]), (.agg [(.ints h1 .u64 a1)])] ∧ p = ⟨(List Int), z41.F a0 a1, z41.enc⟩ := by
  unfold z41.pack at h
  split at h
  case h_2 => simp at h
  simp only [Option.some.injEq] at h
  exact ⟨_, _, _, _, rfl, h.symm⟩
theorem z41.sound (vs : List V) (p : Pack) (h : z41.pack vs = some p) : SoundC Tryz.prog 164 vs p := by
  obtain ⟨h0, h1, a0, a1, rfl, rfl⟩ := z41.pk h
  exact top_sound z41.ctx z41.inlF fun164 (z41.loopsT (inl_ok z41.ctx z41.inlF 6)) rfl (z41.link a0 a1) z41.hdec
def z42.l2un : List Leaf → Option (Int × Nat)
  | [.s _, .i _, .i _, .i part2004, .li _, .li _, .s _, .n s2008] => some (part2004, s2008)
  | _ => none
def z42.l2uo0 : List Leaf → Option (Int × Nat)
  | [.s _, .i _, .i _, .i y0, .li _, .li _, .s _, .n y1] => some (y0, y1)
  | _ => none
def z42.l2uo (p : X × Env × Store) : Option (Int × Nat) := (matchSt z42.l2so0 p.2).bind z42.l2uo0
def z42.l2enc (s2001 : List UInt8) (t2002 : Int) (k2003 : Int) (s2005 : List Int) (s2006 : List Int) (s2007 : List UInt8) (x' : (Int × Nat)) : Env × Store := fillSt z42.l2sh [.s s2001, .i t2002, .i k2003, .i x'.1, .li s2005, .li s2006, .s s2007, .n x'.2]
theorem z42.l2pk {ls : List Leaf} {p : LPack} (h : z42.l2pack ls = some p) : ∃ s2001 t2002 k2003 part2004 s2005 s2006 s2007 s2008, ls = [.s s2001, .i t2002, .i k2003, .i part2004, .li s2005, .li s2006, .s s2007, .n s2008] ∧ p = .one _ (z42.l2 s2007 (part2004, s2008)) (z42.l2out0 s2001 t2002 k2003 part2004 s2005 s2006 s2007 s2008) := by
  unfold z42.l2pack at h
  split at h
  case h_2 => simp at h
  simp only [Option.some.injEq] at h
  exact ⟨_, _, _, _, _, _, _, _, rfl, h.symm⟩
theorem z42.l2_sound (hI : InlOK Tryz.prog z42.C fun R => z42.C.inlK 6) (st : Env × Store) (p : LPack) (h : (matchSt z42.l2sh st).bind z42.l2pack = some p) : p.sound (z42.C.loopG (z42.C.inlK 6) 161 2 0 (loopAt 2 (ifun Tryz.f161).body) st.2.length) st := by
  obtain ⟨ls, h1, h2⟩ := Option.bind_eq_some_iff.1 h
  have h1 := matchSt_fill h1
  obtain ⟨s2001, t2002, k2003, part2004, s2005, s2006, s2007, s2008, rfl, rfl⟩ := z42.l2pk h2
  have hst : st = z42.l2enc s2001 t2002 k2003 s2005 s2006 s2007 (part2004, s2008) := h1.symm.trans (by kernel_rfl)
  have hn : (z42.l2enc s2001 t2002 k2003 s2005 s2006 s2007 (part2004, s2008)).2.length = 3 := by kernel_rfl
  rw [hst, hn]
  intro o ho
  have key := lfp_sound (I := fun R => z42.C.inlK 6) hI (σ := (Int × Nat)) (τ := (Int × Nat)) (fid := 161) (id := 2) (base := 0) (n := 3) (b := (loopAt 2 (ifun Tryz.f161).body)) (F := fun R rec done x => z42.l2P s2007 rec done x) (enc := z42.l2enc s2001 t2002 k2003 s2005 s2006 s2007) (dec := fun st => (matchSt z42.l2sh st).bind z42.l2un) (out := z42.l2out0 s2001 t2002 k2003 part2004 s2005 s2006 s2007 s2008) (decO := z42.l2uo)
    (fun x => by kernel_rfl) (fun o => by kernel_rfl) (fun R k d x' => z42.l2_link R k d s2001 t2002 k2003 (x'.1) s2005 s2006 s2007 (x'.2)) (x := (part2004, s2008)) (o := o) ho
  exact key
def z42.l2aun : List Leaf → Option (Int × Nat)
  | [.s _, .i _, .i _, .i part3004, .i _, .b _, .li _, .li _, .s _, .n s3010] => some (part3004, s3010)
  | _ => none
def z42.l2auo0 : List Leaf → Option (Int × Nat)
  | [.s _, .i _, .i _, .i y0, .i _, .b _, .li _, .li _, .s _, .n y1] => some (y0, y1)
  | _ => none
def z42.l2auo (p : X × Env × Store) : Option (Int × Nat) := (matchSt z42.l2aso0 p.2).bind z42.l2auo0
def z42.l2aenc (s3001 : List UInt8) (t3002 : Int) (k3003 : Int) (t3005 : Int) (t3006 : Bool) (s3007 : List Int) (s3008 : List Int) (s3009 : List UInt8) (x' : (Int × Nat)) : Env × Store := fillSt z42.l2ash [.s s3001, .i t3002, .i k3003, .i x'.1, .i t3005, .b t3006, .li s3007, .li s3008, .s s3009, .n x'.2]
theorem z42.l2apk {ls : List Leaf} {p : LPack} (h : z42.l2apack ls = some p) : ∃ s3001 t3002 k3003 part3004 t3005 t3006 s3007 s3008 s3009 s3010, ls = [.s s3001, .i t3002, .i k3003, .i part3004, .i t3005, .b t3006, .li s3007, .li s3008, .s s3009, .n s3010] ∧ p = .one _ (z42.l2a s3009 (part3004, s3010)) (z42.l2aout0 s3001 t3002 k3003 part3004 t3005 t3006 s3007 s3008 s3009 s3010) := by
  unfold z42.l2apack at h
  split at h
  case h_2 => simp at h
  simp only [Option.some.injEq] at h
  exact ⟨_, _, _, _, _, _, _, _, _, _, rfl, h.symm⟩
theorem z42.l2a_sound (hI : InlOK Tryz.prog z42.C fun R => z42.C.inlK 6) (st : Env × Store) (p : LPack) (h : (matchSt z42.l2ash st).bind z42.l2apack = some p) : p.sound (z42.C.loopG (z42.C.inlK 6) 161 2 0 (loopAt 2 (ifun Tryz.f161).body) st.2.length) st := by
  obtain ⟨ls, h1, h2⟩ := Option.bind_eq_some_iff.1 h
  have h1 := matchSt_fill h1
  obtain ⟨s3001, t3002, k3003, part3004, t3005, t3006, s3007, s3008, s3009, s3010, rfl, rfl⟩ := z42.l2apk h2
  have hst : st = z42.l2aenc s3001 t3002 k3003 t3005 t3006 s3007 s3008 s3009 (part3004, s3010) := h1.symm.trans (by kernel_rfl)
  have hn : (z42.l2aenc s3001 t3002 k3003 t3005 t3006 s3007 s3008 s3009 (part3004, s3010)).2.length = 3 := by kernel_rfl
  rw [hst, hn]
  intro o ho
  have key := lfp_sound (I := fun R => z42.C.inlK 6) hI (σ := (Int × Nat)) (τ := (Int × Nat)) (fid := 161) (id := 2) (base := 0) (n := 3) (b := (loopAt 2 (ifun Tryz.f161).body)) (F := fun R rec done x => z42.l2aP s3009 rec done x) (enc := z42.l2aenc s3001 t3002 k3003 t3005 t3006 s3007 s3008 s3009) (dec := fun st => (matchSt z42.l2ash st).bind z42.l2aun) (out := z42.l2aout0 s3001 t3002 k3003 part3004 t3005 t3006 s3007 s3008 s3009 s3010) (decO := z42.l2auo)
    (fun x => by kernel_rfl) (fun o => by kernel_rfl) (fun R k d x' => z42.l2a_link R k d s3001 t3002 k3003 (x'.1) t3005 t3006 s3007 s3008 s3009 (x'.2)) (x := (part3004, s3010)) (o := o) ho
  exact key
def z42.l0aaun : List Leaf → Option ((List UInt8) × Bool × (List Int))
  | [.s s5001, .i _, .b first5003, .li _, .li s5005] => some (s5001, first5003, s5005)
  | _ => none
def z42.l0aauo0 : List Leaf → Option ((List UInt8) × Bool × (List Int))
  | [.s y0, .i _, .b y1, .li _, .li y2] => some (y0, y1, y2)
  | _ => none
def z42.l0aauo (p : X × Env × Store) : Option ((List UInt8) × Bool × (List Int)) := (matchSt z42.l0aaso0 p.2).bind z42.l0aauo0
def z42.l0aaenc (t5002 : Int) (s5004 : List Int) (x' : ((List UInt8) × Bool × (List Int))) : Env × Store := fillSt z42.l0aash [.s x'.1, .i t5002, .b x'.2.1, .li s5004, .li x'.2.2]
theorem z42.l0aapk {ls : List Leaf} {p : LPack} (h : z42.l0aapack ls = some p) : ∃ s5001 t5002 first5003 s5004 s5005, ls = [.s s5001, .i t5002, .b first5003, .li s5004, .li s5005] ∧ p = .one _ (z42.l0aa (s5001, first5003, s5005)) (z42.l0aaout0 s5001 t5002 first5003 s5004 s5005) := by
  unfold z42.l0aapack at h
  split at h
  case h_2 => simp at h
  simp only [Option.some.injEq] at h
  exact ⟨_, _, _, _, _, rfl, h.symm⟩
theorem z42.l0aa_sound (hI : InlOK Tryz.prog z42.C fun R => z42.C.inlK 6) (st : Env × Store) (p : LPack) (h : (matchSt z42.l0aash st).bind z42.l0aapack = some p) : p.sound (z42.C.loopG (z42.C.inlK 6) 161 0 0 (loopAt 0 (ifun Tryz.f161).body) st.2.length) st := by
  obtain ⟨ls, h1, h2⟩ := Option.bind_eq_some_iff.1 h
  have h1 := matchSt_fill h1
  obtain ⟨s5001, t5002, first5003, s5004, s5005, rfl, rfl⟩ := z42.l0aapk h2
  have hst : st = z42.l0aaenc t5002 s5004 (s5001, first5003, s5005) := h1.symm.trans (by kernel_rfl)
  have hn : (z42.l0aaenc t5002 s5004 (s5001, first5003, s5005)).2.length = 2 := by kernel_rfl
  rw [hst, hn]
  intro o ho
  have key := lfp_sound (I := fun R => z42.C.inlK 6) hI (σ := ((List UInt8) × Bool × (List Int))) (τ := ((List UInt8) × Bool × (List Int))) (fid := 161) (id := 0) (base := 0) (n := 2) (b := (loopAt 0 (ifun Tryz.f161).body)) (F := fun R rec done x => z42.l0aaP  rec done x) (enc := z42.l0aaenc t5002 s5004) (dec := fun st => (matchSt z42.l0aash st).bind z42.l0aaun) (out := z42.l0aaout0 s5001 t5002 first5003 s5004 s5005) (decO := z42.l0aauo)
    (fun x => by kernel_rfl) (fun o => by kernel_rfl) (fun R k d x' => z42.l0aa_link R k d (x'.1) t5002 (x'.2.1) s5004 (x'.2.2)) (x := (s5001, first5003, s5005)) (o := o) ho
  exact key
theorem fun161 : FunOK Tryz.prog 161 Tryz.f161 (ifun Tryz.f161).body := ⟨Tryz.func161, rfl, by kernel_rfl⟩
theorem once161 : loopsOnce (ifun Tryz.f161).body = true := by kernel_rfl
theorem z42.loopsT (hI : InlOK Tryz.prog z42.C fun R => z42.C.inlK 6) : LoopsOK z42.C (fun R => z42.C.inlK 6) 161 0 (ifun Tryz.f161).body := by
  intro id b hm st p hp
  obtain rfl := loopsOnce_mem once161 hm
  unfold z42.C at hp
  simp only at hp
  try split at hp
  all_goals first
    | (simp at hp; done)
    | (exfalso; omega)
    | exact (orP_some hp).elim (fun h => z42.l2_sound hI st p h) (fun h => z42.l2a_sound hI st p h)
    | exact z42.l0aa_sound hI st p hp
theorem z42.inlF : InlF Tryz.prog z42.C where
  prim g h hp := by simp [z42.C] at hp
  fn g fn h := by simp [z42.C] at h
  loops g fn h := by simp [z42.C] at h
theorem z42.ctx : CtxOK Tryz.prog z42.C where
  tab := tab_ok
  mixed := mixed_ok
  call g vs p _ _ h := by
    unfold z42.C at h; simp only at h; split at h
    · exact z3.sound vs p h
    · exact z39.sound vs p h
    · exact z41.sound vs p h
    · exact z25.sound vs p h
    · simp at h
  clone g e _ h := by
    simp [z42.C] at h
theorem z42.hdec : ∀ v r, z42.dec v = some r → relax3 v = z42.enc r ∧ imm3 (z42.enc r) = true := by
  intro v r h
  unfold z42.dec at h
  split at h
  case h_2 => simp at h
  simp only [Option.some.injEq] at h
  subst h
  exact ⟨rfl, rfl⟩
theorem z42.pk {vs : List V} {p : Pack} (h : z42.pack vs = some p) : ∃ (a0 : List UInt8), vs = [(.str a0)] ∧ p = ⟨(List Int) × Int, z42.F a0, z42.enc⟩ := by
  unfold z42.pack at h
  split at h
  case h_2 => simp at h
  simp only [Option.some.injEq] at h
  exact ⟨_, rfl, h.symm⟩
theorem z42.sound (vs : List V) (p : Pack) (h : z42.pack vs = some p) : SoundC Tryz.prog 161 vs p := by
  obtain ⟨a0, rfl, rfl⟩ := z42.pk h
  exact top_sound z42.ctx z42.inlF fun161 (z42.loopsT (inl_ok z42.ctx z42.inlF 6)) rfl (z42.link a0) z42.hdec
theorem fun76 : FunOK Tryz.prog 76 Tryz.f76 (ifun Tryz.f76).body := ⟨Tryz.func76, rfl, by kernel_rfl⟩
theorem once76 : loopsOnce (ifun Tryz.f76).body = true := by kernel_rfl
theorem z43.loopsT (hI : InlOK Tryz.prog z43.C fun R => z43.C.inlK 6) : LoopsOK z43.C (fun R => z43.C.inlK 6) 76 0 (ifun Tryz.f76).body := by
  intro id b hm st p hp
  obtain rfl := loopsOnce_mem once76 hm
  simp [z43.C] at hp
theorem z43.inlF : InlF Tryz.prog z43.C where
  prim g h hp := by simp [z43.C] at hp
  fn g fn h := by simp [z43.C] at h
  loops g fn h := by simp [z43.C] at h
theorem z43.ctx : CtxOK Tryz.prog z43.C where
  tab := tab_ok
  mixed := mixed_ok
  call g vs p _ _ h := by
    unfold z43.C at h; simp only at h; split at h
    · exact z38.sound vs p h
    · exact z42.sound vs p h
    · exact z20.sound vs p h
    · exact z22.sound vs p h
    · simp at h
  clone g e _ h := by
    simp [z43.C] at h
theorem z43.hdec : ∀ v r, z43.dec v = some r → relax3 v = z43.enc r ∧ imm3 (z43.enc r) = true := by
  intro v r h
  unfold z43.dec at h
  split at h
  case h_2 => simp at h
  simp only [Option.some.injEq] at h
  subst h
  exact ⟨rfl, rfl⟩
theorem z43.pk {vs : List V} {p : Pack} (h : z43.pack vs = some p) : ∃ (a0 : List UInt8), vs = [(.str a0)] ∧ p = ⟨(List Int) × Bool × Int, z43.F a0, z43.enc⟩ := by
  unfold z43.pack at h
  split at h
  case h_2 => simp at h
  simp only [Option.some.injEq] at h
  exact ⟨_, rfl, h.symm⟩
theorem z43.sound (vs : List V) (p : Pack) (h : z43.pack vs = some p) : SoundC Tryz.prog 76 vs p := by
  obtain ⟨a0, rfl, rfl⟩ := z43.pk h
  exact top_sound z43.ctx z43.inlF fun76 (z43.loopsT (inl_ok z43.ctx z43.inlF 6)) rfl (z43.link a0) z43.hdec
def z44.l0un : List Leaf → Option (Int × (List Int) × (List Int))
  | [.i times1001, .li s1002, .li _, .li s1004] => some (times1001, s1002, s1004)
  | _ => none
def z44.l0uo0 : List Leaf → Option (Int × (List Int) × (List Int))
  | [.i y0, .li y1, .li _, .li y2] => some (y0, y1, y2)
  | _ => none
def z44.l0uo (p : X × Env × Store) : Option (Int × (List Int) × (List Int)) := (matchSt z44.l0so0 p.2).bind z44.l0uo0
def z44.l0enc (s1003 : List Int) (x' : (Int × (List Int) × (List Int))) : Env × Store := fillSt z44.l0sh [.i x'.1, .li x'.2.1, .li s1003, .li x'.2.2]
theorem z44.l0pk {ls : List Leaf} {p : LPack} (h : z44.l0pack ls = some p) : ∃ times1001 s1002 s1003 s1004, ls = [.i times1001, .li s1002, .li s1003, .li s1004] ∧ p = .one _ (z44.l0 (times1001, s1002, s1004)) (z44.l0out0 times1001 s1002 s1003 s1004) := by
  unfold z44.l0pack at h
  split at h
  case h_2 => simp at h
  simp only [Option.some.injEq] at h
  exact ⟨_, _, _, _, rfl, h.symm⟩
theorem z44.l0_sound (hI : InlOK Tryz.prog z44.C fun R => z44.C.inlK 6) (st : Env × Store) (p : LPack) (h : (matchSt z44.l0sh st).bind z44.l0pack = some p) : p.sound (z44.C.loopG (z44.C.inlK 6) 247 0 0 (loopAt 0 (ifun Tryz.f247).body) st.2.length) st := by
  obtain ⟨ls, h1, h2⟩ := Option.bind_eq_some_iff.1 h
  have h1 := matchSt_fill h1
  obtain ⟨times1001, s1002, s1003, s1004, rfl, rfl⟩ := z44.l0pk h2
  have hst : st = z44.l0enc s1003 (times1001, s1002, s1004) := h1.symm.trans (by kernel_rfl)
  have hn : (z44.l0enc s1003 (times1001, s1002, s1004)).2.length = 3 := by kernel_rfl
  rw [hst, hn]
  intro o ho
  have key := lfp_sound (I := fun R => z44.C.inlK 6) hI (σ := (Int × (List Int) × (List Int))) (τ := (Int × (List Int) × (List Int))) (fid := 247) (id := 0) (base := 0) (n := 3) (b := (loopAt 0 (ifun Tryz.f247).body)) (F := fun R rec done x => z44.l0P  rec done x) (enc := z44.l0enc s1003) (dec := fun st => (matchSt z44.l0sh st).bind z44.l0un) (out := z44.l0out0 times1001 s1002 s1003 s1004) (decO := z44.l0uo)
    (fun x => by kernel_rfl) (fun o => by kernel_rfl) (fun R k d x' => z44.l0_link R k d (x'.1) (x'.2.1) s1003 (x'.2.2)) (x := (times1001, s1002, s1004)) (o := o) ho
  exact key
theorem fun247 : FunOK Tryz.prog 247 Tryz.f247 (ifun Tryz.f247).body := ⟨Tryz.func247, rfl, by kernel_rfl⟩
theorem once247 : loopsOnce (ifun Tryz.f247).body = true := by kernel_rfl
theorem z44.loopsT (hI : InlOK Tryz.prog z44.C fun R => z44.C.inlK 6) : LoopsOK z44.C (fun R => z44.C.inlK 6) 247 0 (ifun Tryz.f247).body := by
  intro id b hm st p hp
  obtain rfl := loopsOnce_mem once247 hm
  unfold z44.C at hp
  simp only at hp
  try split at hp
  all_goals first
    | (simp at hp; done)
    | (exfalso; omega)
    | exact z44.l0_sound hI st p hp
theorem z44.inlF : InlF Tryz.prog z44.C where
  prim g h hp := by simp [z44.C] at hp
  fn g fn h := by simp [z44.C] at h
  loops g fn h := by simp [z44.C] at h
theorem z44.ctx : CtxOK Tryz.prog z44.C where
  tab := tab_ok
  mixed := mixed_ok
  call g vs p _ _ h := by
    unfold z44.C at h; simp only at h; split at h
    · exact z39.sound vs p h
    · exact z41.sound vs p h
    · simp at h
  clone g e _ h := by
    simp [z44.C] at h
theorem z44.hdec : ∀ v r, z44.dec v = some r → relax3 v = z44.enc r ∧ imm3 (z44.enc r) = true := by
  intro v r h
  unfold z44.dec at h
  split at h
  case h_2 => simp at h
  simp only [Option.some.injEq] at h
  subst h
  exact ⟨rfl, rfl⟩
theorem z44.pk {vs : List V} {p : Pack} (h : z44.pack vs = some p) : ∃ (h0 : Bool) (a0 : List Int) (a1 : Int), vs = [(.agg [(.ints h0 .u64 a0)]), (.int .i64 a1)] ∧ p = ⟨(List Int), z44.F a0 a1, z44.enc⟩ := by
  unfold z44.pack at h
  split at h
  case h_2 => simp at h
  simp only [Option.some.injEq] at h
  exact ⟨_, _, _, rfl, h.symm⟩
theorem z44.sound (vs : List V) (p : Pack) (h : z44.pack vs = some p) : SoundC Tryz.prog 247 vs p := by
  obtain ⟨h0, a0, a1, rfl, rfl⟩ := z44.pk h
  exact top_sound z44.ctx z44.inlF fun247 (z44.loopsT (inl_ok z44.ctx z44.inlF 6)) rfl (z44.link a0 a1) z44.hdec
theorem fun195 : FunOK Tryz.prog 195 Tryz.f195 (ifun Tryz.f195).body := ⟨Tryz.func195, rfl, by kernel_rfl⟩
theorem once195 : loopsOnce (ifun Tryz.f195).body = true := by kernel_rfl
theorem z45.loopsT (hI : InlOK Tryz.prog z45.C fun R => z45.C.inlK 6) : LoopsOK z45.C (fun R => z45.C.inlK 6) 195 0 (ifun Tryz.f195).body := by
  intro id b hm st p hp
  obtain rfl := loopsOnce_mem once195 hm
  simp [z45.C] at hp
theorem z45.inlF : InlF Tryz.prog z45.C where
  prim g h hp := by simp [z45.C] at hp
  fn g fn h := by simp [z45.C] at h
  loops g fn h := by simp [z45.C] at h
theorem z45.ctx : CtxOK Tryz.prog z45.C where
  tab := tab_ok
  mixed := mixed_ok
  call g vs p _ _ h := by
    unfold z45.C at h; simp only at h; split at h
    · exact z39.sound vs p h
    · exact z44.sound vs p h
    · simp at h
  clone g e _ h := by
    simp [z45.C] at h
theorem z45.hdec : ∀ v r, z45.dec v = some r → relax3 v = z45.enc r ∧ imm3 (z45.enc r) = true := by
  intro v r h
  unfold z45.dec at h
  split at h
  case h_2 => simp at h
  simp only [Option.some.injEq] at h
  subst h
  exact ⟨rfl, rfl⟩
theorem z45.pk {vs : List V} {p : Pack} (h : z45.pack vs = some p) : ∃ (a0 : Int), vs = [(.int .i64 a0)] ∧ p = ⟨(List Int) × Int, z45.F a0, z45.enc⟩ := by
  unfold z45.pack at h
  split at h
  case h_2 => simp at h
  simp only [Option.some.injEq] at h
  exact ⟨_, rfl, h.symm⟩
theorem z45.sound (vs : List V) (p : Pack) (h : z45.pack vs = some p) : SoundC Tryz.prog 195 vs p := by
  obtain ⟨a0, rfl, rfl⟩ := z45.pk h
  exact top_sound z45.ctx z45.inlF fun195 (z45.loopsT (inl_ok z45.ctx z45.inlF 6)) rfl (z45.link a0) z45.hdec
theorem fun114 : FunOK Tryz.prog 114 Tryz.f114 (ifun Tryz.f114).body := ⟨Tryz.func114, rfl, by kernel_rfl⟩
theorem once114 : loopsOnce (ifun Tryz.f114).body = true := by kernel_rfl
theorem z46.loopsT (hI : InlOK Tryz.prog z46.C fun R => z46.C.inlK 6) : LoopsOK z46.C (fun R => z46.C.inlK 6) 114 0 (ifun Tryz.f114).body := by
  intro id b hm st p hp
  obtain rfl := loopsOnce_mem once114 hm
  simp [z46.C] at hp
theorem z46.inlF : InlF Tryz.prog z46.C where
  prim g h hp := by simp [z46.C] at hp
  fn g fn h := by simp [z46.C] at h
  loops g fn h := by simp [z46.C] at h
theorem z46.ctx : CtxOK Tryz.prog z46.C where
  tab := tab_ok
  mixed := mixed_ok
  call g vs p _ _ h := by
    unfold z46.C at h; simp only at h; split at h
    · exact z45.sound vs p h
    · exact z22.sound vs p h
    · simp at h
  clone g e _ h := by
    simp [z46.C] at h
theorem z46.hdec : ∀ v r, z46.dec v = some r → relax3 v = z46.enc r ∧ imm3 (z46.enc r) = true := by
  intro v r h
  unfold z46.dec at h
  split at h
  case h_2 => simp at h
  simp only [Option.some.injEq] at h
  subst h
  exact ⟨rfl, rfl⟩
theorem z46.pk {vs : List V} {p : Pack} (h : z46.pack vs = some p) : vs = [] ∧ p = ⟨(List Int) × Bool, z46.F, z46.enc⟩ := by
  unfold z46.pack at h
  split at h
  case h_2 => simp at h
  simp only [Option.some.injEq] at h
  exact ⟨rfl, h.symm⟩
theorem z46.sound (vs : List V) (p : Pack) (h : z46.pack vs = some p) : SoundC Tryz.prog 114 vs p := by
  obtain ⟨rfl, rfl⟩ := z46.pk h
  exact top_sound z46.ctx z46.inlF fun114 (z46.loopsT (inl_ok z46.ctx z46.inlF 6)) rfl z46.link z46.hdec
theorem fun36 : FunOK Tryz.prog 36 Tryz.f36 (ifun Tryz.f36).body := ⟨Tryz.func36, rfl, by kernel_rfl⟩
theorem once36 : loopsOnce (ifun Tryz.f36).body = true := by kernel_rfl
theorem z47.loopsT (hI : InlOK Tryz.prog z47.C fun R => z47.C.inlK 6) : LoopsOK z47.C (fun R => z47.C.inlK 6) 36 0 (ifun Tryz.f36).body := by
  intro id b hm st p hp
  obtain rfl := loopsOnce_mem once36 hm
  simp [z47.C] at hp
theorem z47.inlF : InlF Tryz.prog z47.C where
  prim g h hp := by simp [z47.C] at hp
  fn g fn h := by simp [z47.C] at h
  loops g fn h := by simp [z47.C] at h
theorem z47.ctx : CtxOK Tryz.prog z47.C where
  tab := tab_ok
  mixed := mixed_ok
  call g vs p _ _ h := by
    unfold z47.C at h; simp only at h; split at h
    · exact z43.sound vs p h
    · exact z21.sound vs p h
    · exact z46.sound vs p h
    · exact z35.sound vs p h
    · simp at h
  clone g e _ h := by
    simp [z47.C] at h
theorem z47.hdec : ∀ v r, z47.dec v = some r → relax3 v = z47.enc r ∧ imm3 (z47.enc r) = true := by
  intro v r h
  unfold z47.dec at h
  split at h
  case h_2 => simp at h
  simp only [Option.some.injEq] at h
  subst h
  exact ⟨rfl, rfl⟩
theorem z47.pk {vs : List V} {p : Pack} (h : z47.pack vs = some p) : ∃ (a0 : List UInt8), vs = [(.str a0)] ∧ p = ⟨(List Int) × Bool × Int, z47.F a0, z47.enc⟩ := by
  unfold z47.pack at h
  split at h
  case h_2 => simp at h
  simp only [Option.some.injEq] at h
  exact ⟨_, rfl, h.symm⟩
theorem z47.sound (vs : List V) (p : Pack) (h : z47.pack vs = some p) : SoundC Tryz.prog 36 vs p := by
  obtain ⟨a0, rfl, rfl⟩ := z47.pk h
  exact top_sound z47.ctx z47.inlF fun36 (z47.loopsT (inl_ok z47.ctx z47.inlF 6)) rfl (z47.link a0) z47.hdec
theorem fun68 : FunOK Tryz.prog 68 Tryz.f68 (ifun Tryz.f68).body := ⟨Tryz.func68, rfl, by kernel_rfl⟩
theorem once68 : loopsOnce (ifun Tryz.f68).body = true := by kernel_rfl
theorem z48.loopsT (hI : InlOK Tryz.prog z48.C fun R => z48.C.inlK 6) : LoopsOK z48.C (fun R => z48.C.inlK 6) 68 0 (ifun Tryz.f68).body := by
  intro id b hm st p hp
  obtain rfl := loopsOnce_mem once68 hm
  simp [z48.C] at hp
theorem z48.inlF : InlF Tryz.prog z48.C where
  prim g h hp := by simp [z48.C] at hp
  fn g fn h := by simp [z48.C] at h
  loops g fn h := by simp [z48.C] at h
theorem z48.ctx : CtxOK Tryz.prog z48.C where
  tab := tab_ok
  mixed := mixed_ok
  call g vs p _ _ h := by
    simp [z48.C] at h
  clone g e _ h := by
    simp [z48.C] at h
theorem z48.hdec : ∀ v r, z48.dec v = some r → relax3 v = z48.enc r ∧ imm3 (z48.enc r) = true := by
  intro v r h
  unfold z48.dec at h
  split at h
  case h_2 => simp at h
  simp only [Option.some.injEq] at h
  subst h
  exact ⟨rfl, rfl⟩
theorem z48.pk {vs : List V} {p : Pack} (h : z48.pack vs = some p) : ∃ (h0 : Bool) (a0 : List Int) (a1 : Bool), vs = [(.agg [(.ints h0 .u64 a0), (.bool a1)])] ∧ p = ⟨(List Int) × Bool × (List Int), z48.F a0 a1, z48.enc⟩ := by
  unfold z48.pack at h
  split at h
  case h_2 => simp at h
  simp only [Option.some.injEq] at h
  exact ⟨_, _, _, rfl, h.symm⟩
theorem z48.sound (vs : List V) (p : Pack) (h : z48.pack vs = some p) : SoundC Tryz.prog 68 vs p := by
  obtain ⟨h0, a0, a1, rfl, rfl⟩ := z48.pk h
  exact top_sound z48.ctx z48.inlF fun68 (z48.loopsT (inl_ok z48.ctx z48.inlF 6)) rfl (z48.link a0 a1) z48.hdec
theorem fun69 : FunOK Tryz.prog 69 Tryz.f69 (ifun Tryz.f69).body := ⟨Tryz.func69, rfl, by kernel_rfl⟩
theorem once69 : loopsOnce (ifun Tryz.f69).body = true := by kernel_rfl
theorem z49.loopsT (hI : InlOK Tryz.prog z49.C fun R => z49.C.inlK 6) : LoopsOK z49.C (fun R => z49.C.inlK 6) 69 0 (ifun Tryz.f69).body := by
  intro id b hm st p hp
  obtain rfl := loopsOnce_mem once69 hm
  simp [z49.C] at hp
theorem z49.inlF : InlF Tryz.prog z49.C where
  prim g h hp := by simp [z49.C] at hp
  fn g fn h := by simp [z49.C] at h
  loops g fn h := by simp [z49.C] at h
theorem z49.ctx : CtxOK Tryz.prog z49.C where
  tab := tab_ok
  mixed := mixed_ok
  call g vs p _ _ h := by
    unfold z49.C at h; simp only at h; split at h
    · exact z39.sound vs p h
    · exact z22.sound vs p h
    · simp at h
  clone g e _ h := by
    simp [z49.C] at h
theorem z49.hdec : ∀ v r, z49.dec v = some r → relax3 v = z49.enc r ∧ imm3 (z49.enc r) = true := by
  intro v r h
  unfold z49.dec at h
  split at h
  case h_2 => simp at h
  simp only [Option.some.injEq] at h
  subst h
  exact ⟨rfl, rfl⟩
theorem z49.pk {vs : List V} {p : Pack} (h : z49.pack vs = some p) : ∃ (a0 : Int), vs = [(.int .i64 a0)] ∧ p = ⟨(List Int) × Bool, z49.F a0, z49.enc⟩ := by
  unfold z49.pack at h
  split at h
  case h_2 => simp at h
  simp only [Option.some.injEq] at h
  exact ⟨_, rfl, h.symm⟩
theorem z49.sound (vs : List V) (p : Pack) (h : z49.pack vs = some p) : SoundC Tryz.prog 69 vs p := by
  obtain ⟨a0, rfl, rfl⟩ := z49.pk h
  exact top_sound z49.ctx z49.inlF fun69 (z49.loopsT (inl_ok z49.ctx z49.inlF 6)) rfl (z49.link a0) z49.hdec
theorem fun199 : FunOK Tryz.prog 199 Tryz.f199 (ifun Tryz.f199).body := ⟨Tryz.func199, rfl, by kernel_rfl⟩
theorem once199 : loopsOnce (ifun Tryz.f199).body = true := by kernel_rfl
theorem z50.loopsT (hI : InlOK Tryz.prog z50.C fun R => z50.C.inlK 6) : LoopsOK z50.C (fun R => z50.C.inlK 6) 199 0 (ifun Tryz.f199).body := by
  intro id b hm st p hp
  obtain rfl := loopsOnce_mem once199 hm
  simp [z50.C] at hp
theorem z50.inlF : InlF Tryz.prog z50.C where
  prim g h hp := by simp [z50.C] at hp
  fn g fn h := by simp [z50.C] at h
  loops g fn h := by simp [z50.C] at h
theorem z50.ctx : CtxOK Tryz.prog z50.C where
  tab := tab_ok
  mixed := mixed_ok
  call g vs p _ _ h := by
    unfold z50.C at h; simp only at h; split at h
    · exact z3.sound vs p h
    · simp at h
  clone g e _ h := by
    simp [z50.C] at h
theorem z50.hdec : ∀ v r, z50.dec v = some r → relax3 v = z50.enc r ∧ imm3 (z50.enc r) = true := by
  intro v r h
  unfold z50.dec at h
  split at h
  case h_2 => simp at h
  simp only [Option.some.injEq] at h
  subst h
  exact ⟨rfl, rfl⟩
theorem z50.pk {vs : List V} {p : Pack} (h : z50.pack vs = some p) : ∃ (a0 : List UInt8), vs = [(.str a0)] ∧ p = ⟨Bool, z50.F a0, z50.enc⟩ := by
  unfold z50.pack at h
  split at h
  case h_2 => simp at h
  simp only [Option.some.injEq] at h
  exact ⟨_, rfl, h.symm⟩
theorem z50.sound (vs : List V) (p : Pack) (h : z50.pack vs = some p) : SoundC Tryz.prog 199 vs p := by
  obtain ⟨a0, rfl, rfl⟩ := z50.pk h
  exact top_sound z50.ctx z50.inlF fun199 (z50.loopsT (inl_ok z50.ctx z50.inlF 6)) rfl (z50.link a0) z50.hdec
theorem fun118 : FunOK Tryz.prog 118 Tryz.f118 (ifun Tryz.f118).body := ⟨Tryz.func118, rfl, by kernel_rfl⟩
theorem once118 : loopsOnce (ifun Tryz.f118).body = true := by kernel_rfl
theorem fun198 : FunOK Tryz.prog 198 Tryz.f198 (ifun Tryz.f198).body := ⟨Tryz.func198, rfl, by kernel_rfl⟩
theorem once198 : loopsOnce (ifun Tryz.f198).body = true := by kernel_rfl
theorem fun248 : FunOK Tryz.prog 248 Tryz.f248 (ifun Tryz.f248).body := ⟨Tryz.func248, rfl, by kernel_rfl⟩
theorem once248 : loopsOnce (ifun Tryz.f248).body = true := by kernel_rfl
theorem fun275 : FunOK Tryz.prog 275 Tryz.f275 (ifun Tryz.f275).body := ⟨Tryz.func275, rfl, by kernel_rfl⟩
theorem once275 : loopsOnce (ifun Tryz.f275).body = true := by kernel_rfl
theorem fun283 : FunOK Tryz.prog 283 Tryz.f283 (ifun Tryz.f283).body := ⟨Tryz.func283, rfl, by kernel_rfl⟩
theorem once283 : loopsOnce (ifun Tryz.f283).body = true := by kernel_rfl
theorem z51.loopsT (hI : InlOK Tryz.prog z51.C fun R => z51.C.inlK 6) : LoopsOK z51.C (fun R => z51.C.inlK 6) 118 0 (ifun Tryz.f118).body := by
  intro id b hm st p hp
  obtain rfl := loopsOnce_mem once118 hm
  simp [z51.C] at hp
theorem z51.loops198 (hI : InlOK Tryz.prog z51.C fun R => z51.C.inlK 3) (base : Nat) : LoopsOK z51.C (fun R => z51.C.inlK 3) 198 base (ifun Tryz.f198).body := by
  intro id b hm st p hp
  obtain rfl := loopsOnce_mem once198 hm
  simp [z51.C] at hp
theorem z51.loops248 (hI : InlOK Tryz.prog z51.C fun R => z51.C.inlK 2) (base : Nat) : LoopsOK z51.C (fun R => z51.C.inlK 2) 248 base (ifun Tryz.f248).body := by
  intro id b hm st p hp
  obtain rfl := loopsOnce_mem once248 hm
  simp [z51.C] at hp
theorem z51.loops275 (hI : InlOK Tryz.prog z51.C fun R => z51.C.inlK 1) (base : Nat) : LoopsOK z51.C (fun R => z51.C.inlK 1) 275 base (ifun Tryz.f275).body := by
  intro id b hm st p hp
  obtain rfl := loopsOnce_mem once275 hm
  simp [z51.C] at hp
theorem z51.loops283 (hI : InlOK Tryz.prog z51.C fun R => z51.C.inlK 0) (base : Nat) : LoopsOK z51.C (fun R => z51.C.inlK 0) 283 base (ifun Tryz.f283).body := by
  intro id b hm st p hp
  obtain rfl := loopsOnce_mem once283 hm
  simp [z51.C] at hp
theorem z51.inlF : InlF Tryz.prog z51.C where
  prim g h hp := by simp [z51.C] at hp
  fn g fn h := by
    unfold z51.C at h; simp only at h; split at h
    · simp only [Option.some.injEq] at h; subst h; exact ⟨_, _, fun198, rfl⟩
    · simp only [Option.some.injEq] at h; subst h; exact ⟨_, _, fun248, rfl⟩
    · simp only [Option.some.injEq] at h; subst h; exact ⟨_, _, fun275, rfl⟩
    · simp only [Option.some.injEq] at h; subst h; exact ⟨_, _, fun283, rfl⟩
    · simp at h
  loops g fn h := by
    unfold z51.C at h; simp only at h; split at h
    · simp only [Option.some.injEq] at h; subst h; exact fun hI base => z51.loops198 hI base
    · simp only [Option.some.injEq] at h; subst h; exact fun hI base => z51.loops248 hI base
    · simp only [Option.some.injEq] at h; subst h; exact fun hI base => z51.loops275 hI base
    · simp only [Option.some.injEq] at h; subst h; exact fun hI base => z51.loops283 hI base
    · simp at h
theorem z51.ctx : CtxOK Tryz.prog z51.C where
  tab := tab_ok
  mixed := mixed_ok
  call g vs p _ _ h := by
    unfold z51.C at h; simp only at h; split at h
    · exact z38.sound vs p h
    · exact z50.sound vs p h
    · exact z3.sound vs p h
    · exact z4.sound vs p h
    · exact z42.sound vs p h
    · exact z22.sound vs p h
    · exact z2.sound vs p h
    · simp at h
  clone g e _ h := by
    simp [z51.C] at h
theorem z51.hdec : ∀ v r, z51.dec v = some r → relax3 v = z51.enc r ∧ imm3 (z51.enc r) = true := by
  intro v r h
  unfold z51.dec at h
  split at h
  case h_2 => simp at h
  simp only [Option.some.injEq] at h
  subst h
  exact ⟨rfl, rfl⟩
theorem z51.pk {vs : List V} {p : Pack} (h : z51.pack vs = some p) : ∃ (a0 : List UInt8), vs = [(.str a0)] ∧ p = ⟨(List Int) × Bool × Int × Int, z51.F a0, z51.enc⟩ := by
  unfold z51.pack at h
  split at h
  case h_2 => simp at h
  simp only [Option.some.injEq] at h
  exact ⟨_, rfl, h.symm⟩
theorem z51.sound (vs : List V) (p : Pack) (h : z51.pack vs = some p) : SoundC Tryz.prog 118 vs p := by
  obtain ⟨a0, rfl, rfl⟩ := z51.pk h
  exact top_sound z51.ctx z51.inlF fun118 (z51.loopsT (inl_ok z51.ctx z51.inlF 6)) rfl (z51.link a0) z51.hdec
theorem fun202 : FunOK Tryz.prog 202 Tryz.f202 (ifun Tryz.f202).body := ⟨Tryz.func202, rfl, by kernel_rfl⟩
theorem once202 : loopsOnce (ifun Tryz.f202).body = true := by kernel_rfl
theorem z52.loopsT (hI : InlOK Tryz.prog z52.C fun R => z52.C.inlK 6) : LoopsOK z52.C (fun R => z52.C.inlK 6) 202 0 (ifun Tryz.f202).body := by
  intro id b hm st p hp
  obtain rfl := loopsOnce_mem once202 hm
  simp [z52.C] at hp
theorem z52.inlF : InlF Tryz.prog z52.C where
  prim g h hp := by simp [z52.C] at hp
  fn g fn h := by simp [z52.C] at h
  loops g fn h := by simp [z52.C] at h
theorem z52.ctx : CtxOK Tryz.prog z52.C where
  tab := tab_ok
  mixed := mixed_ok
  call g vs p _ _ h := by
    simp [z52.C] at h
  clone g e _ h := by
    simp [z52.C] at h
theorem z52.hdec : ∀ v r, z52.dec v = some r → relax3 v = z52.enc r ∧ imm3 (z52.enc r) = true := by
  intro v r h
  unfold z52.dec at h
  split at h
  case h_2 => simp at h
  simp only [Option.some.injEq] at h
  subst h
  exact ⟨rfl, rfl⟩
theorem z52.pk {vs : List V} {p : Pack} (h : z52.pack vs = some p) : ∃ (a0 : Int), vs = [(.int .i64 a0)] ∧ p = ⟨Bool, z52.F a0, z52.enc⟩ := by
  unfold z52.pack at h
  split at h
  case h_2 => simp at h
  simp only [Option.some.injEq] at h
  exact ⟨_, rfl, h.symm⟩
theorem z52.sound (vs : List V) (p : Pack) (h : z52.pack vs = some p) : SoundC Tryz.prog 202 vs p := by
  obtain ⟨a0, rfl, rfl⟩ := z52.pk h
  exact top_sound z52.ctx z52.inlF fun202 (z52.loopsT (inl_ok z52.ctx z52.inlF 6)) rfl (z52.link a0) z52.hdec
theorem fun119 : FunOK Tryz.prog 119 Tryz.f119 (ifun Tryz.f119).body := ⟨Tryz.func119, rfl, by kernel_rfl⟩
theorem once119 : loopsOnce (ifun Tryz.f119).body = true := by kernel_rfl
theorem z53.loopsT (hI : InlOK Tryz.prog z53.C fun R => z53.C.inlK 6) : LoopsOK z53.C (fun R => z53.C.inlK 6) 119 0 (ifun Tryz.f119).body := by
  intro id b hm st p hp
  obtain rfl := loopsOnce_mem once119 hm
  simp [z53.C] at hp
theorem z53.inlF : InlF Tryz.prog z53.C where
  prim g h hp := by simp [z53.C] at hp
  fn g fn h := by simp [z53.C] at h
  loops g fn h := by simp [z53.C] at h
theorem z53.ctx : CtxOK Tryz.prog z53.C where
  tab := tab_ok
  mixed := mixed_ok
  call g vs p _ _ h := by
    unfold z53.C at h; simp only at h; split at h
    · exact z52.sound vs p h
    · simp at h
  clone g e _ h := by
    simp [z53.C] at h
theorem z53.hdec : ∀ v r, z53.dec v = some r → relax3 v = z53.enc r ∧ imm3 (z53.enc r) = true := by
  intro v r h
  unfold z53.dec at h
  split at h
  case h_2 => simp at h
  simp only [Option.some.injEq] at h
  subst h
  exact ⟨rfl, rfl⟩
theorem z53.pk {vs : List V} {p : Pack} (h : z53.pack vs = some p) : ∃ (h0 : Bool) (a0 : List Int) (a1 : Bool) (a2 : Int), vs = [(.agg [(.ints h0 .u64 a0), (.bool a1)]), (.int .i64 a2)] ∧ p = ⟨(List Int) × Bool × Int × Int, z53.F a0 a1 a2, z53.enc⟩ := by
  unfold z53.pack at h
  split at h
  case h_2 => simp at h
  simp only [Option.some.injEq] at h
  exact ⟨_, _, _, _, rfl, h.symm⟩
theorem z53.sound (vs : List V) (p : Pack) (h : z53.pack vs = some p) : SoundC Tryz.prog 119 vs p := by
  obtain ⟨h0, a0, a1, a2, rfl, rfl⟩ := z53.pk h
  exact top_sound z53.ctx z53.inlF fun119 (z53.loopsT (inl_ok z53.ctx z53.inlF 6)) rfl (z53.link a0 a1 a2) z53.hdec
theorem fun120 : FunOK Tryz.prog 120 Tryz.f120 (ifun Tryz.f120).body := ⟨Tryz.func120, rfl, by kernel_rfl⟩
theorem once120 : loopsOnce (ifun Tryz.f120).body = true := by kernel_rfl
theorem z54.loopsT (hI : InlOK Tryz.prog z54.C fun R => z54.C.inlK 6) : LoopsOK z54.C (fun R => z54.C.inlK 6) 120 0 (ifun Tryz.f120).body := by
  intro id b hm st p hp
  obtain rfl := loopsOnce_mem once120 hm
  simp [z54.C] at hp
theorem z54.inlF : InlF Tryz.prog z54.C where
  prim g h hp := by simp [z54.C] at hp
  fn g fn h := by simp [z54.C] at h
  loops g fn h := by simp [z54.C] at h
theorem z54.ctx : CtxOK Tryz.prog z54.C where
  tab := tab_ok
  mixed := mixed_ok
  call g vs p _ _ h := by
    simp [z54.C] at h
  clone g e _ h := by
    simp [z54.C] at h
theorem z54.hdec : ∀ v r, z54.dec v = some r → relax3 v = z54.enc r ∧ imm3 (z54.enc r) = true := by
  intro v r h
  unfold z54.dec at h
  split at h
  case h_2 => simp at h
  simp only [Option.some.injEq] at h
  subst h
  exact ⟨rfl, rfl⟩
theorem z54.pk {vs : List V} {p : Pack} (h : z54.pack vs = some p) : ∃ (h0 : Bool) (a0 : List Int) (a1 : Bool) (a2 : Int), vs = [(.agg [(.ints h0 .u64 a0), (.bool a1), (.int .i64 a2)])] ∧ p = ⟨(List Int) × Bool, z54.F a0 a1 a2, z54.enc⟩ := by
  unfold z54.pack at h
  split at h
  case h_2 => simp at h
  simp only [Option.some.injEq] at h
  exact ⟨_, _, _, _, rfl, h.symm⟩
theorem z54.sound (vs : List V) (p : Pack) (h : z54.pack vs = some p) : SoundC Tryz.prog 120 vs p := by
  obtain ⟨h0, a0, a1, a2, rfl, rfl⟩ := z54.pk h
  exact top_sound z54.ctx z54.inlF fun120 (z54.loopsT (inl_ok z54.ctx z54.inlF 6)) rfl (z54.link a0 a1 a2) z54.hdec
theorem fun156 : FunOK Tryz.prog 156 Tryz.f156 (ifun Tryz.f156).body := ⟨Tryz.func156, rfl, by kernel_rfl⟩
theorem once156 : loopsOnce (ifun Tryz.f156).body = true := by kernel_rfl
theorem z55.loopsT (hI : InlOK Tryz.prog z55.C fun R => z55.C.inlK 6) : LoopsOK z55.C (fun R => z55.C.inlK 6) 156 0 (ifun Tryz.f156).body := by
  intro id b hm st p hp
  obtain rfl := loopsOnce_mem once156 hm
  simp [z55.C] at hp
theorem z55.inlF : InlF Tryz.prog z55.C where
  prim g h hp := by simp [z55.C] at hp
  fn g fn h := by simp [z55.C] at h
  loops g fn h := by simp [z55.C] at h
theorem z55.ctx : CtxOK Tryz.prog z55.C where
  tab := tab_ok
  mixed := mixed_ok
  call g vs p _ _ h := by
    unfold z55.C at h; simp only at h; split at h
    · exact z41.sound vs p h
    · exact z22.sound vs p h
    · simp at h
  clone g e _ h := by
    simp [z55.C] at h
theorem z55.hdec : ∀ v r, z55.dec v = some r → relax3 v = z55.enc r ∧ imm3 (z55.enc r) = true := by
  intro v r h
  unfold z55.dec at h
  split at h
  case h_2 => simp at h
  simp only [Option.some.injEq] at h
  subst h
  exact ⟨rfl, rfl⟩
theorem z55.pk {vs : List V} {p : Pack} (h : z55.pack vs = some p) : ∃ (h0 : Bool) (h1 : Bool) (a0 : List Int) (a1 : Bool) (a2 : List Int) (a3 : Bool), vs = [(.agg [(.ints h0 .u64 a0), (.bool a1)]), (.agg [(.ints h1 .u64 a2), (.bool a3)])] ∧ p = ⟨(List Int) × Bool, z55.F a0 a1 a2 a3, z55.enc⟩ := by
  unfold z55.pack at h
  split at h
  case h_2 => simp at h
  simp only [Option.some.injEq] at h
  exact ⟨_, _, _, _, _, _, rfl, h.symm⟩
theorem z55.sound (vs : List V) (p : Pack) (h : z55.pack vs = some p) : SoundC Tryz.prog 156 vs p := by
  obtain ⟨h0, h1, a0, a1, a2, a3, rfl, rfl⟩ := z55.pk h
  exact top_sound z55.ctx z55.inlF fun156 (z55.loopsT (inl_ok z55.ctx z55.inlF 6)) rfl (z55.link a0 a1 a2 a3) z55.hdec
theorem fun204 : FunOK Tryz.prog 204 Tryz.f204 (ifun Tryz.f204).body := ⟨Tryz.func204, rfl, by kernel_rfl⟩
theorem once204 : loopsOnce (ifun Tryz.f204).body = true := by kernel_rfl
theorem z56.loopsT (hI : InlOK Tryz.prog z56.C fun R => z56.C.inlK 6) : LoopsOK z56.C (fun R => z56.C.inlK 6) 204 0 (ifun Tryz.f204).body := by
  intro id b hm st p hp
  obtain rfl := loopsOnce_mem once204 hm
  simp [z56.C] at hp
theorem z56.inlF : InlF Tryz.prog z56.C where
  prim g h hp := by simp [z56.C] at hp
  fn g fn h := by simp [z56.C] at h
  loops g fn h := by simp [z56.C] at h
theorem z56.ctx : CtxOK Tryz.prog z56.C where
  tab := tab_ok
  mixed := mixed_ok
  call g vs p _ _ h := by
    unfold z56.C at h; simp only at h; split at h
    · exact z45.sound vs p h
    · exact z22.sound vs p h
    · simp at h
  clone g e _ h := by
    simp [z56.C] at h
theorem z56.hdec : ∀ v r, z56.dec v = some r → relax3 v = z56.enc r ∧ imm3 (z56.enc r) = true := by
  intro v r h
  unfold z56.dec at h
  split at h
  case h_2 => simp at h
  simp only [Option.some.injEq] at h
  subst h
  exact ⟨rfl, rfl⟩
theorem z56.pk {vs : List V} {p : Pack} (h : z56.pack vs = some p) : ∃ (a0 : Int), vs = [(.int .i64 a0)] ∧ p = ⟨(List Int) × Bool, z56.F a0, z56.enc⟩ := by
  unfold z56.pack at h
  split at h
  case h_2 => simp at h
  simp only [Option.some.injEq] at h
  exact ⟨_, rfl, h.symm⟩
theorem z56.sound (vs : List V) (p : Pack) (h : z56.pack vs = some p) : SoundC Tryz.prog 204 vs p := by
  obtain ⟨a0, rfl, rfl⟩ := z56.pk h
  exact top_sound z56.ctx z56.inlF fun204 (z56.loopsT (inl_ok z56.ctx z56.inlF 6)) rfl (z56.link a0) z56.hdec
theorem fun203 : FunOK Tryz.prog 203 Tryz.f203 (ifun Tryz.f203).body := ⟨Tryz.func203, rfl, by kernel_rfl⟩
theorem once203 : loopsOnce (ifun Tryz.f203).body = true := by kernel_rfl
theorem z57.loopsT (hI : InlOK Tryz.prog z57.C fun R => z57.C.inlK 6) : LoopsOK z57.C (fun R => z57.C.inlK 6) 203 0 (ifun Tryz.f203).body := by
  intro id b hm st p hp
  obtain rfl := loopsOnce_mem once203 hm
  simp [z57.C] at hp
theorem z57.inlF : InlF Tryz.prog z57.C where
  prim g h hp := by simp [z57.C] at hp
  fn g fn h := by simp [z57.C] at h
  loops g fn h := by simp [z57.C] at h
theorem z57.ctx : CtxOK Tryz.prog z57.C where
  tab := tab_ok
  mixed := mixed_ok
  call g vs p _ _ h := by
    unfold z57.C at h; simp only at h; split at h
    · exact z56.sound vs p h
    · exact z55.sound vs p h
    · simp at h
  clone g e _ h := by
    simp [z57.C] at h
theorem z57.hdec : ∀ v r, z57.dec v = some r → relax3 v = z57.enc r ∧ imm3 (z57.enc r) = true := by
  intro v r h
  unfold z57.dec at h
  split at h
  case h_2 => simp at h
  simp only [Option.some.injEq] at h
  subst h
  exact ⟨rfl, rfl⟩
theorem z57.pk {vs : List V} {p : Pack} (h : z57.pack vs = some p) : ∃ (h0 : Bool) (a0 : List Int) (a1 : Bool) (a2 : Int) (a3 : Int), vs = [(.agg [(.ints h0 .u64 a0), (.bool a1), (.int .i64 a2)]), (.int .i64 a3)] ∧ p = ⟨(List Int) × Bool, z57.F a0 a1 a2 a3, z57.enc⟩ := by
  unfold z57.pack at h
  split at h
  case h_2 => simp at h
  simp only [Option.some.injEq] at h
  exact ⟨_, _, _, _, _, rfl, h.symm⟩
theorem z57.sound (vs : List V) (p : Pack) (h : z57.pack vs = some p) : SoundC Tryz.prog 203 vs p := by
  obtain ⟨h0, a0, a1, a2, a3, rfl, rfl⟩ := z57.pk h
  exact top_sound z57.ctx z57.inlF fun203 (z57.loopsT (inl_ok z57.ctx z57.inlF 6)) rfl (z57.link a0 a1 a2 a3) z57.hdec
theorem fun121 : FunOK Tryz.prog 121 Tryz.f121 (ifun Tryz.f121).body := ⟨Tryz.func121, rfl, by kernel_rfl⟩
theorem once121 : loopsOnce (ifun Tryz.f121).body = true := by kernel_rfl
theorem z58.loopsT (hI : InlOK Tryz.prog z58.C fun R => z58.C.inlK 6) : LoopsOK z58.C (fun R => z58.C.inlK 6) 121 0 (ifun Tryz.f121).body := by
  intro id b hm st p hp
  obtain rfl := loopsOnce_mem once121 hm
  simp [z58.C] at hp
theorem z58.inlF : InlF Tryz.prog z58.C where
  prim g h hp := by simp [z58.C] at hp
  fn g fn h := by simp [z58.C] at h
  loops g fn h := by simp [z58.C] at h
theorem z58.ctx : CtxOK Tryz.prog z58.C where
  tab := tab_ok
  mixed := mixed_ok
  call g vs p _ _ h := by
    unfold z58.C at h; simp only at h; split at h
    · exact z57.sound vs p h
    · exact z35.sound vs p h
    · simp at h
  clone g e _ h := by
    simp [z58.C] at h
theorem z58.hdec : ∀ v r, z58.dec v = some r → relax3 v = z58.enc r ∧ imm3 (z58.enc r) = true := by
  intro v r h
  unfold z58.dec at h
  split at h
  case h_2 => simp at h
  simp only [Option.some.injEq] at h
  subst h
  exact ⟨rfl, rfl⟩
theorem z58.pk {vs : List V} {p : Pack} (h : z58.pack vs = some p) : ∃ (h0 : Bool) (h1 : Bool) (a0 : List Int) (a1 : Bool) (a2 : Int) (a3 : List Int) (a4 : Bool) (a5 : Int), vs = [(.agg [(.ints h0 .u64 a0), (.bool a1), (.int .i64 a2)]), (.agg [(.ints h1 .u64 a3), (.bool a4), (.int .i64 a5)])] ∧ p = ⟨Int, z58.F a0 a1 a2 a3 a4 a5, z58.enc⟩ := by
  unfold z58.pack at h
  split at h
  case h_2 => simp at h
  simp only [Option.some.injEq] at h
  exact ⟨_, _, _, _, _, _, _, _, rfl, h.symm⟩
theorem z58.sound (vs : List V) (p : Pack) (h : z58.pack vs = some p) : SoundC Tryz.prog 121 vs p := by
  obtain ⟨h0, h1, a0, a1, a2, a3, a4, a5, rfl, rfl⟩ := z58.pk h
  exact top_sound z58.ctx z58.inlF fun121 (z58.loopsT (inl_ok z58.ctx z58.inlF 6)) rfl (z58.link a0 a1 a2 a3 a4 a5) z58.hdec
theorem fun122 : FunOK Tryz.prog 122 Tryz.f122 (ifun Tryz.f122).body := ⟨Tryz.func122, rfl, by kernel_rfl⟩
theorem once122 : loopsOnce (ifun Tryz.f122).body = true := by kernel_rfl
theorem z59.loopsT (hI : InlOK Tryz.prog z59.C fun R => z59.C.inlK 6) : LoopsOK z59.C (fun R => z59.C.inlK 6) 122 0 (ifun Tryz.f122).body := by
  intro id b hm st p hp
  obtain rfl := loopsOnce_mem once122 hm
  simp [z59.C] at hp
theorem z59.inlF : InlF Tryz.prog z59.C where
  prim g h hp := by simp [z59.C] at hp
  fn g fn h := by simp [z59.C] at h
  loops g fn h := by simp [z59.C] at h
theorem z59.ctx : CtxOK Tryz.prog z59.C where
  tab := tab_ok
  mixed := mixed_ok
  call g vs p _ _ h := by
    simp [z59.C] at h
  clone g e _ h := by
    simp [z59.C] at h
theorem z59.hdec : ∀ v r, z59.dec v = some r → relax3 v = z59.enc r ∧ imm3 (z59.enc r) = true := by
  intro v r h
  unfold z59.dec at h
  split at h
  case h_2 => simp at h
  simp only [Option.some.injEq] at h
  subst h
  exact ⟨rfl, rfl⟩
theorem z59.pk {vs : List V} {p : Pack} (h : z59.pack vs = some p) : ∃ (h0 : Bool) (a0 : List Int) (a1 : Bool) (a2 : Int), vs = [(.agg [(.ints h0 .u64 a0), (.bool a1), (.int .i64 a2)])] ∧ p = ⟨Int, z59.F a0 a1 a2, z59.enc⟩ := by
  unfold z59.pack at h
  split at h
  case h_2 => simp at h
  simp only [Option.some.injEq] at h
  exact ⟨_, _, _, _, rfl, h.symm⟩
theorem z59.sound (vs : List V) (p : Pack) (h : z59.pack vs = some p) : SoundC Tryz.prog 122 vs p := by
  obtain ⟨h0, a0, a1, a2, rfl, rfl⟩ := z59.pk h
  exact top_sound z59.ctx z59.inlF fun122 (z59.loopsT (inl_ok z59.ctx z59.inlF 6)) rfl (z59.link a0 a1 a2) z59.hdec
theorem fun92 : FunOK Tryz.prog 92 Tryz.f92 (ifun Tryz.f92).body := ⟨Tryz.func92, rfl, by kernel_rfl⟩
theorem once92 : loopsOnce (ifun Tryz.f92).body = true := by kernel_rfl
theorem z60.loopsT (hI : InlOK Tryz.prog z60.C fun R => z60.C.inlK 6) : LoopsOK z60.C (fun R => z60.C.inlK 6) 92 0 (ifun Tryz.f92).body := by
  intro id b hm st p hp
  obtain rfl := loopsOnce_mem once92 hm
  simp [z60.C] at hp
theorem z60.inlF : InlF Tryz.prog z60.C where
  prim g h hp := by simp [z60.C] at hp
  fn g fn h := by simp [z60.C] at h
  loops g fn h := by simp [z60.C] at h
theorem z60.ctx : CtxOK Tryz.prog z60.C where
  tab := tab_ok
  mixed := mixed_ok
  call g vs p _ _ h := by
    simp [z60.C] at h
  clone g e _ h := by
    simp [z60.C] at h
theorem z60.hdec : ∀ v r, z60.dec v = some r → relax3 v = z60.enc r ∧ imm3 (z60.enc r) = true := by
  intro v r h
  unfold z60.dec at h
  split at h
  case h_2 => simp at h
  simp only [Option.some.injEq] at h
  subst h
  exact ⟨rfl, rfl⟩
theorem z60.pk {vs : List V} {p : Pack} (h : z60.pack vs = some p) : ∃ (h0 : Bool) (a0 : List Int) (a1 : Bool), vs = [(.agg [(.ints h0 .u64 a0), (.bool a1)])] ∧ p = ⟨(List Int), z60.F a0 a1, z60.enc⟩ := by
  unfold z60.pack at h
  split at h
  case h_2 => simp at h
  simp only [Option.some.injEq] at h
  exact ⟨_, _, _, rfl, h.symm⟩
theorem z60.sound (vs : List V) (p : Pack) (h : z60.pack vs = some p) : SoundC Tryz.prog 92 vs p := by
  obtain ⟨h0, a0, a1, rfl, rfl⟩ := z60.pk h
  exact top_sound z60.ctx z60.inlF fun92 (z60.loopsT (inl_ok z60.ctx z60.inlF 6)) rfl (z60.link a0 a1) z60.hdec
theorem fun188 : FunOK Tryz.prog 188 Tryz.f188 (ifun Tryz.f188).body := ⟨Tryz.func188, rfl, by kernel_rfl⟩
theorem once188 : loopsOnce (ifun Tryz.f188).body = true := by kernel_rfl
theorem z61.loopsT (hI : InlOK Tryz.prog z61.C fun R => z61.C.inlK 6) : LoopsOK z61.C (fun R => z61.C.inlK 6) 188 0 (ifun Tryz.f188).body := by
  intro id b hm st p hp
  obtain rfl := loopsOnce_mem once188 hm
  simp [z61.C] at hp
theorem z61.inlF : InlF Tryz.prog z61.C where
  prim g h hp := by
    unfold z61.C at hp; simp only at hp; split at hp
    · simp only [Option.some.injEq] at hp; subst hp; exact prim222
    · simp at hp
  fn g fn h := by simp [z61.C] at h
  loops g fn h := by simp [z61.C] at h
theorem z61.ctx : CtxOK Tryz.prog z61.C where
  tab := tab_ok
  mixed := mixed_ok
  call g vs p _ _ h := by
    simp [z61.C] at h
  clone g e _ h := by
    simp [z61.C] at h
theorem z61.hdec : ∀ v r, z61.dec v = some r → relax3 v = z61.enc r ∧ imm3 (z61.enc r) = true := by
  intro v r h
  unfold z61.dec at h
  split at h
  case h_2 => simp at h
  simp only [Option.some.injEq] at h
  subst h
  exact ⟨rfl, rfl⟩
theorem z61.pk {vs : List V} {p : Pack} (h : z61.pack vs = some p) : ∃ (h0 : Bool) (a0 : List Int), vs = [(.agg [(.ints h0 .u64 a0)])] ∧ p = ⟨(List Int), z61.F a0, z61.enc⟩ := by
  unfold z61.pack at h
  split at h
  case h_2 => simp at h
  simp only [Option.some.injEq] at h
  exact ⟨_, _, rfl, h.symm⟩
theorem z61.sound (vs : List V) (p : Pack) (h : z61.pack vs = some p) : SoundC Tryz.prog 188 vs p := by
  obtain ⟨h0, a0, rfl, rfl⟩ := z61.pk h
  exact top_sound z61.ctx z61.inlF fun188 (z61.loopsT (inl_ok z61.ctx z61.inlF 6)) rfl (z61.link a0) z61.hdec
theorem fun280 : FunOK Tryz.prog 280 Tryz.f280 (ifun Tryz.f280).body := ⟨Tryz.func280, rfl, by kernel_rfl⟩
theorem once280 : loopsOnce (ifun Tryz.f280).body = true := by kernel_rfl
theorem z62.loopsT (hI : InlOK Tryz.prog z62.C fun R => z62.C.inlK 6) : LoopsOK z62.C (fun R => z62.C.inlK 6) 280 0 (ifun Tryz.f280).body := by
  intro id b hm st p hp
  obtain rfl := loopsOnce_mem once280 hm
  simp [z62.C] at hp
theorem z62.inlF : InlF Tryz.prog z62.C where
  prim g h hp := by simp [z62.C] at hp
  fn g fn h := by simp [z62.C] at h
  loops g fn h := by simp [z62.C] at h
theorem z62.ctx : CtxOK Tryz.prog z62.C where
  tab := tab_ok
  mixed := mixed_ok
  call g vs p _ _ h := by
    simp [z62.C] at h
  clone g e _ h := by
    simp [z62.C] at h
theorem z62.hdec : ∀ v r, z62.dec v = some r → relax3 v = z62.enc r ∧ imm3 (z62.enc r) = true := by
  intro v r h
  unfold z62.dec at h
  split at h
  case h_2 => simp at h
  simp only [Option.some.injEq] at h
  subst h
  exact ⟨rfl, rfl⟩
theorem z62.pk {vs : List V} {p : Pack} (h : z62.pack vs = some p) : ∃ (a0 : Int), vs = [(.int .u64 a0)] ∧ p = ⟨Int, z62.F a0, z62.enc⟩ := by
  unfold z62.pack at h
  split at h
  case h_2 => simp at h
  simp only [Option.some.injEq] at h
  exact ⟨_, rfl, h.symm⟩
theorem z62.sound (vs : List V) (p : Pack) (h : z62.pack vs = some p) : SoundC Tryz.prog 280 vs p := by
  obtain ⟨a0, rfl, rfl⟩ := z62.pk h
  exact top_sound z62.ctx z62.inlF fun280 (z62.loopsT (inl_ok z62.ctx z62.inlF 6)) rfl (z62.link a0) z62.hdec
theorem fun262 : FunOK Tryz.prog 262 Tryz.f262 (ifun Tryz.f262).body := ⟨Tryz.func262, rfl, by kernel_rfl⟩
theorem once262 : loopsOnce (ifun Tryz.f262).body = true := by kernel_rfl
theorem z63.loopsT (hI : InlOK Tryz.prog z63.C fun R => z63.C.inlK 6) : LoopsOK z63.C (fun R => z63.C.inlK 6) 262 0 (ifun Tryz.f262).body := by
  intro id b hm st p hp
  obtain rfl := loopsOnce_mem once262 hm
  simp [z63.C] at hp
theorem z63.inlF : InlF Tryz.prog z63.C where
  prim g h hp := by simp [z63.C] at hp
  fn g fn h := by simp [z63.C] at h
  loops g fn h := by simp [z63.C] at h
theorem z63.ctx : CtxOK Tryz.prog z63.C where
  tab := tab_ok
  mixed := mixed_ok
  call g vs p _ _ h := by
    unfold z63.C at h; simp only at h; split at h
    · exact z62.sound vs p h
    · simp at h
  clone g e _ h := by
    simp [z63.C] at h
theorem z63.hdec : ∀ v r, z63.dec v = some r → relax3 v = z63.enc r ∧ imm3 (z63.enc r) = true := by
  intro v r h
  unfold z63.dec at h
  split at h
  case h_2 => simp at h
  simp only [Option.some.injEq] at h
  subst h
  exact ⟨rfl, rfl⟩
theorem z63.pk {vs : List V} {p : Pack} (h : z63.pack vs = some p) : ∃ (a0 : Int), vs = [(.int .u64 a0)] ∧ p = ⟨Int, z63.F a0, z63.enc⟩ := by
  unfold z63.pack at h
  split at h
  case h_2 => simp at h
  simp only [Option.some.injEq] at h
  exact ⟨_, rfl, h.symm⟩
theorem z63.sound (vs : List V) (p : Pack) (h : z63.pack vs = some p) : SoundC Tryz.prog 262 vs p := by
  obtain ⟨a0, rfl, rfl⟩ := z63.pk h
  exact top_sound z63.ctx z63.inlF fun262 (z63.loopsT (inl_ok z63.ctx z63.inlF 6)) rfl (z63.link a0) z63.hdec
def z64.l0b8un : List Leaf → Option (Int × Int)
  | [.i _, .i _, .i _, .i _, .i _, .i _, .i _, .i _, .i _, .i q9010, .i rhat9011] => some (q9010, rhat9011)
  | _ => none
def z64.l0b8uo0 : List Leaf → Option (Int × Int)
  | [.i _, .i _, .i _, .i _, .i _, .i _, .i _, .i _, .i _, .i y0, .i y1] => some (y0, y1)
  | _ => none
def z64.l0b8uo (p : X × Env × Store) : Option (Int × Int) := (matchSt z64.l0b8so0 p.2).bind z64.l0b8uo0
def z64.l0b8enc (y9001 : Int) (quo9002 : Int) (rem9003 : Int) (s9004 : Int) (yn9005 : Int) (yn9006 : Int) (un9007 : Int) (un9008 : Int) (un9009 : Int) (x' : (Int × Int)) : Env × Store := fillSt z64.l0b8sh [.i y9001, .i quo9002, .i rem9003, .i s9004, .i yn9005, .i yn9006, .i un9007, .i un9008, .i un9009, .i x'.1, .i x'.2]
theorem z64.l0b8pk {ls : List Leaf} {p : LPack} (h : z64.l0b8pack ls = some p) : ∃ y9001 quo9002 rem9003 s9004 yn9005 yn9006 un9007 un9008 un9009 q9010 rhat9011, ls = [.i y9001, .i quo9002, .i rem9003, .i s9004, .i yn9005, .i yn9006, .i un9007, .i un9008, .i un9009, .i q9010, .i rhat9011] ∧ p = .one _ (z64.l0b8 yn9005 yn9006 un9008 (q9010, rhat9011)) (z64.l0b8out0 y9001 quo9002 rem9003 s9004 yn9005 yn9006 un9007 un9008 un9009 q9010 rhat9011) := by
  unfold z64.l0b8pack at h
  split at h
  case h_2 => simp at h
  simp only [Option.some.injEq] at h
  exact ⟨_, _, _, _, _, _, _, _, _, _, _, rfl, h.symm⟩
theorem z64.l0b8_sound (hI : InlOK Tryz.prog z64.C fun R => z64.C.inlK 6) (st : Env × Store) (p : LPack) (h : (matchSt z64.l0b8sh st).bind z64.l0b8pack = some p) : p.sound (z64.C.loopG (z64.C.inlK 6) 261 0 0 (loopAt 0 (ifun Tryz.f261).body) st.2.length) st := by
  obtain ⟨ls, h1, h2⟩ := Option.bind_eq_some_iff.1 h
  have h1 := matchSt_fill h1
  obtain ⟨y9001, quo9002, rem9003, s9004, yn9005, yn9006, un9007, un9008, un9009, q9010, rhat9011, rfl, rfl⟩ := z64.l0b8pk h2
  have hst : st = z64.l0b8enc y9001 quo9002 rem9003 s9004 yn9005 yn9006 un9007 un9008 un9009 (q9010, rhat9011) := h1.symm.trans (by kernel_rfl)
  have hn : (z64.l0b8enc y9001 quo9002 rem9003 s9004 yn9005 yn9006 un9007 un9008 un9009 (q9010, rhat9011)).2.length = 0 := by kernel_rfl
  rw [hst, hn]
  intro o ho
  have key := lfp_sound (I := fun R => z64.C.inlK 6) hI (σ := (Int × Int)) (τ := (Int × Int)) (fid := 261) (id := 0) (base := 0) (n := 0) (b := (loopAt 0 (ifun Tryz.f261).body)) (F := fun R rec done x => z64.l0b8P yn9005 yn9006 un9008 rec done x) (enc := z64.l0b8enc y9001 quo9002 rem9003 s9004 yn9005 yn9006 un9007 un9008 un9009) (dec := fun st => (matchSt z64.l0b8sh st).bind z64.l0b8un) (out := z64.l0b8out0 y9001 quo9002 rem9003 s9004 yn9005 yn9006 un9007 un9008 un9009 q9010 rhat9011) (decO := z64.l0b8uo)
    (fun x => by kernel_rfl) (fun o => by kernel_rfl) (fun R k d x' => z64.l0b8_link R k d y9001 quo9002 rem9003 s9004 yn9005 yn9006 un9007 un9008 un9009 (x'.1) (x'.2)) (x := (q9010, rhat9011)) (o := o) ho
  exact key
def z64.l2b8un : List Leaf → Option (Int × Int)
  | [.i _, .i _, .i _, .i _, .i _, .i _, .i _, .i _, .i rhat18009, .i _, .i q18011] => some (rhat18009, q18011)
  | _ => none
def z64.l2b8uo0 : List Leaf → Option (Int × Int)
  | [.i _, .i _, .i _, .i _, .i _, .i _, .i _, .i _, .i y0, .i _, .i y1] => some (y0, y1)
  | _ => none
def z64.l2b8uo (p : X × Env × Store) : Option (Int × Int) := (matchSt z64.l2b8so0 p.2).bind z64.l2b8uo0
def z64.l2b8enc (y18001 : Int) (quo18002 : Int) (rem18003 : Int) (s18004 : Int) (yn18005 : Int) (yn18006 : Int) (un18007 : Int) (q18008 : Int) (un18010 : Int) (x' : (Int × Int)) : Env × Store := fillSt z64.l2b8sh [.i y18001, .i quo18002, .i rem18003, .i s18004, .i yn18005, .i yn18006, .i un18007, .i q18008, .i x'.1, .i un18010, .i x'.2]
theorem z64.l2b8pk {ls : List Leaf} {p : LPack} (h : z64.l2b8pack ls = some p) : ∃ y18001 quo18002 rem18003 s18004 yn18005 yn18006 un18007 q18008 rhat18009 un18010 q18011, ls = [.i y18001, .i quo18002, .i rem18003, .i s18004, .i yn18005, .i yn18006, .i un18007, .i q18008, .i rhat18009, .i un18010, .i q18011] ∧ p = .one _ (z64.l2b8 yn18005 yn18006 un18007 (rhat18009, q18011)) (z64.l2b8out0 y18001 quo18002 rem18003 s18004 yn18005 yn18006 un18007 q18008 rhat18009 un18010 q18011) := by
  unfold z64.l2b8pack at h
  split at h
  case h_2 => simp at h
  simp only [Option.some.injEq] at h
  exact ⟨_, _, _, _, _, _, _, _, _, _, _, rfl, h.symm⟩
theorem z64.l2b8_sound (hI : InlOK Tryz.prog z64.C fun R => z64.C.inlK 6) (st : Env × Store) (p : LPack) (h : (matchSt z64.l2b8sh st).bind z64.l2b8pack = some p) : p.sound (z64.C.loopG (z64.C.inlK 6) 261 2 0 (loopAt 2 (ifun Tryz.f261).body) st.2.length) st := by
  obtain ⟨ls, h1, h2⟩ := Option.bind_eq_some_iff.1 h
  have h1 := matchSt_fill h1
  obtain ⟨y18001, quo18002, rem18003, s18004, yn18005, yn18006, un18007, q18008, rhat18009, un18010, q18011, rfl, rfl⟩ := z64.l2b8pk h2
  have hst : st = z64.l2b8enc y18001 quo18002 rem18003 s18004 yn18005 yn18006 un18007 q18008 un18010 (rhat18009, q18011) := h1.symm.trans (by kernel_rfl)
  have hn : (z64.l2b8enc y18001 quo18002 rem18003 s18004 yn18005 yn18006 un18007 q18008 un18010 (rhat18009, q18011)).2.length = 0 := by kernel_rfl
  rw [hst, hn]
  intro o ho
  have key := lfp_sound (I := fun R => z64.C.inlK 6) hI (σ := (Int × Int)) (τ := (Int × Int)) (fid := 261) (id := 2) (base := 0) (n := 0) (b := (loopAt 2 (ifun Tryz.f261).body)) (F := fun R rec done x => z64.l2b8P yn18005 yn18006 un18007 rec done x) (enc := z64.l2b8enc y18001 quo18002 rem18003 s18004 yn18005 yn18006 un18007 q18008 un18010) (dec := fun st => (matchSt z64.l2b8sh st).bind z64.l2b8un) (out := z64.l2b8out0 y18001 quo18002 rem18003 s18004 yn18005 yn18006 un18007 q18008 rhat18009 un18010 q18011) (decO := z64.l2b8uo)
    (fun x => by kernel_rfl) (fun o => by kernel_rfl) (fun R k d x' => z64.l2b8_link R k d y18001 quo18002 rem18003 s18004 yn18005 yn18006 un18007 q18008 (x'.1) un18010 (x'.2)) (x := (rhat18009, q18011)) (o := o) ho
  exact key
theorem fun261 : FunOK Tryz.prog 261 Tryz.f261 (ifun Tryz.f261).body := ⟨Tryz.func261, rfl, by kernel_rfl⟩
theorem once261 : loopsOnce (ifun Tryz.f261).body = true := by kernel_rfl
theorem z64.loopsT (hI : InlOK Tryz.prog z64.C fun R => z64.C.inlK 6) : LoopsOK z64.C (fun R => z64.C.inlK 6) 261 0 (ifun Tryz.f261).body := by
  intro id b hm st p hp
  obtain rfl := loopsOnce_mem once261 hm
  unfold z64.C at hp
  simp only at hp
  try split at hp
  all_goals first
    | (simp at hp; done)
    | (exfalso; omega)
    | exact z64.l0b8_sound hI st p hp
    | exact z64.l2b8_sound hI st p hp
theorem z64.inlF : InlF Tryz.prog z64.C where
  prim g h hp := by simp [z64.C] at hp
  fn g fn h := by simp [z64.C] at h
  loops g fn h := by simp [z64.C] at h
theorem z64.ctx : CtxOK Tryz.prog z64.C where
  tab := tab_ok
  mixed := mixed_ok
  call g vs p _ _ h := by
    unfold z64.C at h; simp only at h; split at h
    · exact z63.sound vs p h
    · simp at h
  clone g e _ h := by
    simp [z64.C] at h
theorem z64.hdec : ∀ v r, z64.dec v = some r → relax3 v = z64.enc r ∧ imm3 (z64.enc r) = true := by
  intro v r h
  unfold z64.dec at h
  split at h
  case h_2 => simp at h
  simp only [Option.some.injEq] at h
  subst h
  exact ⟨rfl, rfl⟩
theorem z64.pk {vs : List V} {p : Pack} (h : z64.pack vs = some p) : ∃ (a0 : Int) (a1 : Int) (a2 : Int), vs = [(.int .u64 a0), (.int .u64 a1), (.int .u64 a2)] ∧ p = ⟨Int × Int, z64.F a0 a1 a2, z64.enc⟩ := by
  unfold z64.pack at h
  split at h
  case h_2 => simp at h
  simp only [Option.some.injEq] at h
  exact ⟨_, _, _, rfl, h.symm⟩
theorem z64.sound (vs : List V) (p : Pack) (h : z64.pack vs = some p) : SoundC Tryz.prog 261 vs p := by
  obtain ⟨a0, a1, a2, rfl, rfl⟩ := z64.pk h
  exact top_sound z64.ctx z64.inlF fun261 (z64.loopsT (inl_ok z64.ctx z64.inlF 6)) rfl (z64.link a0 a1 a2) z64.hdec
def z65.l0un : List Leaf → Option (Int × Int × (List Int))
  | [.li _, .i _, .i _, .i rest1004, .i i1005, .li _, .li s1007] => some (rest1004, i1005, s1007)
  | _ => none
def z65.l0uo0 : List Leaf → Option (Int × Int × (List Int))
  | [.li _, .i _, .i _, .i y0, .i y1, .li _, .li y2] => some (y0, y1, y2)
  | _ => none
def z65.l0uo (p : X × Env × Store) : Option (Int × Int × (List Int)) := (matchSt z65.l0so0 p.2).bind z65.l0uo0
def z65.l0enc (l1001 : List Int) (d1002 : Int) (t1003 : Int) (s1006 : List Int) (x' : (Int × Int × (List Int))) : Env × Store := fillSt z65.l0sh [.li l1001, .i d1002, .i t1003, .i x'.1, .i x'.2.1, .li s1006, .li x'.2.2]
theorem z65.l0pk {ls : List Leaf} {p : LPack} (h : z65.l0pack ls = some p) : ∃ l1001 d1002 t1003 rest1004 i1005 s1006 s1007, ls = [.li l1001, .i d1002, .i t1003, .i rest1004, .i i1005, .li s1006, .li s1007] ∧ p = .one _ (z65.l0 l1001 d1002 (rest1004, i1005, s1007)) (z65.l0out0 l1001 d1002 t1003 rest1004 i1005 s1006 s1007) := by
  unfold z65.l0pack at h
  split at h
  case h_2 => simp at h
  simp only [Option.some.injEq] at h
  exact ⟨_, _, _, _, _, _, _, rfl, h.symm⟩
theorem z65.l0_sound (hI : InlOK Tryz.prog z65.C fun R => z65.C.inlK 6) (st : Env × Store) (p : LPack) (h : (matchSt z65.l0sh st).bind z65.l0pack = some p) : p.sound (z65.C.loopG (z65.C.inlK 6) 224 0 0 (loopAt 0 (ifun Tryz.f224).body) st.2.length) st := by
  obtain ⟨ls, h1, h2⟩ := Option.bind_eq_some_iff.1 h
  have h1 := matchSt_fill h1
  obtain ⟨l1001, d1002, t1003, rest1004, i1005, s1006, s1007, rfl, rfl⟩ := z65.l0pk h2
  have hst : st = z65.l0enc l1001 d1002 t1003 s1006 (rest1004, i1005, s1007) := h1.symm.trans (by kernel_rfl)
  have hn : (z65.l0enc l1001 d1002 t1003 s1006 (rest1004, i1005, s1007)).2.length = 2 := by kernel_rfl
  rw [hst, hn]
  intro o ho
  have key := lfp_sound (I := fun R => z65.C.inlK 6) hI (σ := (Int × Int × (List Int))) (τ := (Int × Int × (List Int))) (fid := 224) (id := 0) (base := 0) (n := 2) (b := (loopAt 0 (ifun Tryz.f224).body)) (F := fun R rec done x => z65.l0P l1001 d1002 rec done x) (enc := z65.l0enc l1001 d1002 t1003 s1006) (dec := fun st => (matchSt z65.l0sh st).bind z65.l0un) (out := z65.l0out0 l1001 d1002 t1003 rest1004 i1005 s1006 s1007) (decO := z65.l0uo)
    (fun x => by kernel_rfl) (fun o => by kernel_rfl) (fun R k d x' => z65.l0_link R k d l1001 d1002 t1003 (x'.1) (x'.2.1) s1006 (x'.2.2)) (x := (rest1004, i1005, s1007)) (o := o) ho
  exact key
theorem fun224 : FunOK Tryz.prog 224 Tryz.f224 (ifun Tryz.f224).body := ⟨Tryz.func224, rfl, by kernel_rfl⟩
theorem once224 : loopsOnce (ifun Tryz.f224).body = true := by kernel_rfl
theorem z65.loopsT (hI : InlOK Tryz.prog z65.C fun R => z65.C.inlK 6) : LoopsOK z65.C (fun R => z65.C.inlK 6) 224 0 (ifun Tryz.f224).body := by
  intro id b hm st p hp
  obtain rfl := loopsOnce_mem once224 hm
  unfold z65.C at hp
  simp only at hp
  try split at hp
  all_goals first
    | (simp at hp; done)
    | (exfalso; omega)
    | exact z65.l0_sound hI st p hp
theorem z65.inlF : InlF Tryz.prog z65.C where
  prim g h hp := by simp [z65.C] at hp
  fn g fn h := by simp [z65.C] at h
  loops g fn h := by simp [z65.C] at h
theorem z65.ctx : CtxOK Tryz.prog z65.C where
  tab := tab_ok
  mixed := mixed_ok
  call g vs p _ _ h := by
    unfold z65.C at h; simp only at h; split at h
    · exact z64.sound vs p h
    · simp at h
  clone g e _ h := by
    simp [z65.C] at h
theorem z65.hdec : ∀ v r, z65.dec v = some r → relax3 v = z65.enc r ∧ imm3 (z65.enc r) = true := by
  intro v r h
  unfold z65.dec at h
  split at h
  case h_2 => simp at h
  simp only [Option.some.injEq] at h
  subst h
  exact ⟨rfl, rfl⟩
theorem z65.pk {vs : List V} {p : Pack} (h : z65.pack vs = some p) : ∃ (h0 : Bool) (a0 : List Int) (a1 : Int), vs = [(.ints h0 .u64 a0), (.int .u64 a1)] ∧ p = ⟨(List Int) × Int, z65.F a0 a1, z65.enc⟩ := by
  unfold z65.pack at h
  split at h
  case h_2 => simp at h
  simp only [Option.some.injEq] at h
  exact ⟨_, _, _, rfl, h.symm⟩
theorem z65.sound (vs : List V) (p : Pack) (h : z65.pack vs = some p) : SoundC Tryz.prog 224 vs p := by
  obtain ⟨h0, a0, a1, rfl, rfl⟩ := z65.pk h
  exact top_sound z65.ctx z65.inlF fun224 (z65.loopsT (inl_ok z65.ctx z65.inlF 6)) rfl (z65.link a0 a1) z65.hdec
theorem fun162 : FunOK Tryz.prog 162 Tryz.f162 (ifun Tryz.f162).body := ⟨Tryz.func162, rfl, by kernel_rfl⟩
theorem once162 : loopsOnce (ifun Tryz.f162).body = true := by kernel_rfl
theorem z66.loopsT (hI : InlOK Tryz.prog z66.C fun R => z66.C.inlK 6) : LoopsOK z66.C (fun R => z66.C.inlK 6) 162 0 (ifun Tryz.f162).body := by
  intro id b hm st p hp
  obtain rfl := loopsOnce_mem once162 hm
  simp [z66.C] at hp
theorem z66.inlF : InlF Tryz.prog z66.C where
  prim g h hp := by simp [z66.C] at hp
  fn g fn h := by simp [z66.C] at h
  loops g fn h := by simp [z66.C] at h
theorem z66.ctx : CtxOK Tryz.prog z66.C where
  tab := tab_ok
  mixed := mixed_ok
  call g vs p _ _ h := by
    unfold z66.C at h; simp only at h; split at h
    · exact z20.sound vs p h
    · exact z30.sound vs p h
    · exact z61.sound vs p h
    · exact z65.sound vs p h
    · exact z39.sound vs p h
    · exact z5.sound vs p h
    · simp at h
  clone g e _ h := by
    simp [z66.C] at h
theorem z66.hdec : ∀ v r, z66.dec v = some r → relax3 v = z66.enc r ∧ imm3 (z66.enc r) = true := by
  intro v r h
  unfold z66.dec at h
  split at h
  case h_2 => simp at h
  simp only [Option.some.injEq] at h
  subst h
  exact ⟨rfl, rfl⟩
theorem z66.pk {vs : List V} {p : Pack} (h : z66.pack vs = some p) : ∃ (h0 : Bool) (h1 : Bool) (a0 : List Int) (a1 : List Int), vs = [(.agg [(.ints h0 .u64 a0)]), (.agg [(.ints h1 .u64 a1)])] ∧ p = ⟨(List Int) × (List Int) × Int, z66.F a0 a1, z66.enc⟩ := by
  unfold z66.pack at h
  split at h
  case h_2 => simp at h
  simp only [Option.some.injEq] at h
  exact ⟨_, _, _, _, rfl, h.symm⟩
theorem z66.sound (vs : List V) (p : Pack) (h : z66.pack vs = some p) : SoundC Tryz.prog 162 vs p := by
  obtain ⟨h0, h1, a0, a1, rfl, rfl⟩ := z66.pk h
  exact top_sound z66.ctx z66.inlF fun162 (z66.loopsT (inl_ok z66.ctx z66.inlF 6)) rfl (z66.link a0 a1) z66.hdec
def z67.l0un : List Leaf → Option ((List Int) × (List Int))
  | [.li s1001, .li s1002, .li _] => some (s1001, s1002)
  | _ => none
def z67.l0uo0 : List Leaf → Option ((List Int) × (List Int))
  | [.li y0, .li y1, .li _] => some (y0, y1)
  | _ => none
def z67.l0uo (p : X × Env × Store) : Option ((List Int) × (List Int)) := (matchSt z67.l0so0 p.2).bind z67.l0uo0
def z67.l0enc (s1003 : List Int) (x' : ((List Int) × (List Int))) : Env × Store := fillSt z67.l0sh [.li x'.1, .li x'.2, .li s1003]
theorem z67.l0pk {ls : List Leaf} {p : LPack} (h : z67.l0pack ls = some p) : ∃ s1001 s1002 s1003, ls = [.li s1001, .li s1002, .li s1003] ∧ p = .one _ (z67.l0 (s1001, s1002)) (z67.l0out0 s1001 s1002 s1003) := by
  unfold z67.l0pack at h
  split at h
  case h_2 => simp at h
  simp only [Option.some.injEq] at h
  exact ⟨_, _, _, rfl, h.symm⟩
theorem z67.l0_sound (hI : InlOK Tryz.prog z67.C fun R => z67.C.inlK 6) (st : Env × Store) (p : LPack) (h : (matchSt z67.l0sh st).bind z67.l0pack = some p) : p.sound (z67.C.loopG (z67.C.inlK 6) 226 0 0 (loopAt 0 (ifun Tryz.f226).body) st.2.length) st := by
  obtain ⟨ls, h1, h2⟩ := Option.bind_eq_some_iff.1 h
  have h1 := matchSt_fill h1
  obtain ⟨s1001, s1002, s1003, rfl, rfl⟩ := z67.l0pk h2
  have hst : st = z67.l0enc s1003 (s1001, s1002) := h1.symm.trans (by kernel_rfl)
  have hn : (z67.l0enc s1003 (s1001, s1002)).2.length = 3 := by kernel_rfl
  rw [hst, hn]
  intro o ho
  have key := lfp_sound (I := fun R => z67.C.inlK 6) hI (σ := ((List Int) × (List Int))) (τ := ((List Int) × (List Int))) (fid := 226) (id := 0) (base := 0) (n := 3) (b := (loopAt 0 (ifun Tryz.f226).body)) (F := fun R rec done x => z67.l0P  rec done x) (enc := z67.l0enc s1003) (dec := fun st => (matchSt z67.l0sh st).bind z67.l0un) (out := z67.l0out0 s1001 s1002 s1003) (decO := z67.l0uo)
    (fun x => by kernel_rfl) (fun o => by kernel_rfl) (fun R k d x' => z67.l0_link R k d (x'.1) (x'.2) s1003) (x := (s1001, s1002)) (o := o) ho
  exact key
theorem fun226 : FunOK Tryz.prog 226 Tryz.f226 (ifun Tryz.f226).body := ⟨Tryz.func226, rfl, by kernel_rfl⟩
theorem once226 : loopsOnce (ifun Tryz.f226).body = true := by kernel_rfl
theorem z67.loopsT (hI : InlOK Tryz.prog z67.C fun R => z67.C.inlK 6) : LoopsOK z67.C (fun R => z67.C.inlK 6) 226 0 (ifun Tryz.f226).body := by
  intro id b hm st p hp
  obtain rfl := loopsOnce_mem once226 hm
  unfold z67.C at hp
  simp only at hp
  try split at hp
  all_goals first
    | (simp at hp; done)
    | (exfalso; omega)
    | exact z67.l0_sound hI st p hp
theorem z67.inlF : InlF Tryz.prog z67.C where
  prim g h hp := by simp [z67.C] at hp
  fn g fn h := by simp [z67.C] at h
  loops g fn h := by simp [z67.C] at h
theorem z67.ctx : CtxOK Tryz.prog z67.C where
  tab := tab_ok
  mixed := mixed_ok
  call g vs p _ _ h := by
    unfold z67.C at h; simp only at h; split at h
    · exact z20.sound vs p h
    · exact z66.sound vs p h
    · simp at h
  clone g e _ h := by
    simp [z67.C] at h
theorem z67.hdec : ∀ v r, z67.dec v = some r → relax3 v = z67.enc r ∧ imm3 (z67.enc r) = true := by
  intro v r h
  unfold z67.dec at h
  split at h
  case h_2 => simp at h
  simp only [Option.some.injEq] at h
  subst h
  exact ⟨rfl, rfl⟩
theorem z67.pk {vs : List V} {p : Pack} (h : z67.pack vs = some p) : ∃ (h0 : Bool) (h1 : Bool) (a0 : List Int) (a1 : List Int), vs = [(.agg [(.ints h0 .u64 a0)]), (.agg [(.ints h1 .u64 a1)])] ∧ p = ⟨(List Int), z67.F a0 a1, z67.enc⟩ := by
  unfold z67.pack at h
  split at h
  case h_2 => simp at h
  simp only [Option.some.injEq] at h
  exact ⟨_, _, _, _, rfl, h.symm⟩
theorem z67.sound (vs : List V) (p : Pack) (h : z67.pack vs = some p) : SoundC Tryz.prog 226 vs p := by
  obtain ⟨h0, h1, a0, a1, rfl, rfl⟩ := z67.pk h
  exact top_sound z67.ctx z67.inlF fun226 (z67.loopsT (inl_ok z67.ctx z67.inlF 6)) rfl (z67.link a0 a1) z67.hdec
theorem fun163 : FunOK Tryz.prog 163 Tryz.f163 (ifun Tryz.f163).body := ⟨Tryz.func163, rfl, by kernel_rfl⟩
theorem once163 : loopsOnce (ifun Tryz.f163).body = true := by kernel_rfl
theorem z68.loopsT (hI : InlOK Tryz.prog z68.C fun R => z68.C.inlK 6) : LoopsOK z68.C (fun R => z68.C.inlK 6) 163 0 (ifun Tryz.f163).body := by
  intro id b hm st p hp
  obtain rfl := loopsOnce_mem once163 hm
  simp [z68.C] at hp
theorem z68.inlF : InlF Tryz.prog z68.C where
  prim g h hp := by simp [z68.C] at hp
  fn g fn h := by simp [z68.C] at h
  loops g fn h := by simp [z68.C] at h
theorem z68.ctx : CtxOK Tryz.prog z68.C where
  tab := tab_ok
  mixed := mixed_ok
  call g vs p _ _ h := by
    unfold z68.C at h; simp only at h; split at h
    · exact z60.sound vs p h
    · exact z67.sound vs p h
    · exact z66.sound vs p h
    · exact z39.sound vs p h
    · exact z31.sound vs p h
    · exact z21.sound vs p h
    · exact z22.sound vs p h
    · simp at h
  clone g e _ h := by
    simp [z68.C] at h
theorem z68.hdec : ∀ v r, z68.dec v = some r → relax3 v = z68.enc r ∧ imm3 (z68.enc r) = true := by
  intro v r h
  unfold z68.dec at h
  split at h
  case h_2 => simp at h
  simp only [Option.some.injEq] at h
  subst h
  exact ⟨rfl, rfl⟩
theorem z68.pk {vs : List V} {p : Pack} (h : z68.pack vs = some p) : ∃ (h0 : Bool) (h1 : Bool) (a0 : List Int) (a1 : Bool) (a2 : List Int), vs = [(.agg [(.ints h0 .u64 a0), (.bool a1)]), (.agg [(.ints h1 .u64 a2)])] ∧ p = ⟨(List Int) × Bool × (List Int), z68.F a0 a1 a2, z68.enc⟩ := by
  unfold z68.pack at h
  split at h
  case h_2 => simp at h
  simp only [Option.some.injEq] at h
  exact ⟨_, _, _, _, _, rfl, h.symm⟩
theorem z68.sound (vs : List V) (p : Pack) (h : z68.pack vs = some p) : SoundC Tryz.prog 163 vs p := by
  obtain ⟨h0, h1, a0, a1, a2, rfl, rfl⟩ := z68.pk h
  exact top_sound z68.ctx z68.inlF fun163 (z68.loopsT (inl_ok z68.ctx z68.inlF 6)) rfl (z68.link a0 a1 a2) z68.hdec
theorem fun176 : FunOK Tryz.prog 176 Tryz.f176 (ifun Tryz.f176).body := ⟨Tryz.func176, rfl, by kernel_rfl⟩
theorem once176 : loopsOnce (ifun Tryz.f176).body = true := by kernel_rfl
theorem z69.loopsT (hI : InlOK Tryz.prog z69.C fun R => z69.C.inlK 6) : LoopsOK z69.C (fun R => z69.C.inlK 6) 176 0 (ifun Tryz.f176).body := by
  intro id b hm st p hp
  obtain rfl := loopsOnce_mem once176 hm
  simp [z69.C] at hp
theorem z69.inlF : InlF Tryz.prog z69.C where
  prim g h hp := by simp [z69.C] at hp
  fn g fn h := by simp [z69.C] at h
  loops g fn h := by simp [z69.C] at h
theorem z69.ctx : CtxOK Tryz.prog z69.C where
  tab := tab_ok
  mixed := mixed_ok
  call g vs p _ _ h := by
    unfold z69.C at h; simp only at h; split at h
    · exact z21.sound vs p h
    · exact z33.sound vs p h
    · exact z60.sound vs p h
    · exact z68.sound vs p h
    · simp at h
  clone g e _ h := by
    simp [z69.C] at h
theorem z69.hdec : ∀ v r, z69.dec v = some r → relax3 v = z69.enc r ∧ imm3 (z69.enc r) = true := by
  intro v r h
  unfold z69.dec at h
  split at h
  case h_2 => simp at h
  simp only [Option.some.injEq] at h
  subst h
  exact ⟨rfl, rfl⟩
theorem z69.pk {vs : List V} {p : Pack} (h : z69.pack vs = some p) : ∃ (h0 : Bool) (h1 : Bool) (a0 : List Int) (a1 : Bool) (a2 : List Int) (a3 : Bool), vs = [(.agg [(.ints h0 .u64 a0), (.bool a1)]), (.agg [(.ints h1 .u64 a2), (.bool a3)])] ∧ p = ⟨(List Int) × Bool × (List Int) × Int, z69.F a0 a1 a2 a3, z69.enc⟩ := by
  unfold z69.pack at h
  split at h
  case h_2 => simp at h
  simp only [Option.some.injEq] at h
  exact ⟨_, _, _, _, _, _, rfl, h.symm⟩
theorem z69.sound (vs : List V) (p : Pack) (h : z69.pack vs = some p) : SoundC Tryz.prog 176 vs p := by
  obtain ⟨h0, h1, a0, a1, a2, a3, rfl, rfl⟩ := z69.pk h
  exact top_sound z69.ctx z69.inlF fun176 (z69.loopsT (inl_ok z69.ctx z69.inlF 6)) rfl (z69.link a0 a1 a2 a3) z69.hdec
theorem fun123 : FunOK Tryz.prog 123 Tryz.f123 (ifun Tryz.f123).body := ⟨Tryz.func123, rfl, by kernel_rfl⟩
theorem once123 : loopsOnce (ifun Tryz.f123).body = true := by kernel_rfl
theorem z70.loopsT (hI : InlOK Tryz.prog z70.C fun R => z70.C.inlK 6) : LoopsOK z70.C (fun R => z70.C.inlK 6) 123 0 (ifun Tryz.f123).body := by
  intro id b hm st p hp
  obtain rfl := loopsOnce_mem once123 hm
  simp [z70.C] at hp
theorem z70.inlF : InlF Tryz.prog z70.C where
  prim g h hp := by simp [z70.C] at hp
  fn g fn h := by simp [z70.C] at h
  loops g fn h := by simp [z70.C] at h
theorem z70.ctx : CtxOK Tryz.prog z70.C where
  tab := tab_ok
  mixed := mixed_ok
  call g vs p _ _ h := by
    unfold z70.C at h; simp only at h; split at h
    · exact z56.sound vs p h
    · exact z69.sound vs p h
    · simp at h
  clone g e _ h := by
    simp [z70.C] at h
theorem z70.hdec : ∀ v r, z70.dec v = some r → relax3 v = z70.enc r ∧ imm3 (z70.enc r) = true := by
  intro v r h
  unfold z70.dec at h
  split at h
  case h_2 => simp at h
  simp only [Option.some.injEq] at h
  subst h
  exact ⟨rfl, rfl⟩
theorem z70.pk {vs : List V} {p : Pack} (h : z70.pack vs = some p) : ∃ (h0 : Bool) (a0 : List Int) (a1 : Bool) (a2 : Int), vs = [(.agg [(.ints h0 .u64 a0), (.bool a1), (.int .i64 a2)])] ∧ p = ⟨(List Int) × Bool × (List Int), z70.F a0 a1 a2, z70.enc⟩ := by
  unfold z70.pack at h
  split at h
  case h_2 => simp at h
  simp only [Option.some.injEq] at h
  exact ⟨_, _, _, _, rfl, h.symm⟩
theorem z70.sound (vs : List V) (p : Pack) (h : z70.pack vs = some p) : SoundC Tryz.prog 123 vs p := by
  obtain ⟨h0, a0, a1, a2, rfl, rfl⟩ := z70.pk h
  exact top_sound z70.ctx z70.inlF fun123 (z70.loopsT (inl_ok z70.ctx z70.inlF 6)) rfl (z70.link a0 a1 a2) z70.hdec
theorem fun130 : FunOK Tryz.prog 130 Tryz.f130 (ifun Tryz.f130).body := ⟨Tryz.func130, rfl, by kernel_rfl⟩
theorem once130 : loopsOnce (ifun Tryz.f130).body = true := by kernel_rfl
theorem z71.loopsT (hI : InlOK Tryz.prog z71.C fun R => z71.C.inlK 6) : LoopsOK z71.C (fun R => z71.C.inlK 6) 130 0 (ifun Tryz.f130).body := by
  intro id b hm st p hp
  obtain rfl := loopsOnce_mem once130 hm
  simp [z71.C] at hp
theorem z71.inlF : InlF Tryz.prog z71.C where
  prim g h hp := by simp [z71.C] at hp
  fn g fn h := by simp [z71.C] at h
  loops g fn h := by simp [z71.C] at h
theorem z71.ctx : CtxOK Tryz.prog z71.C where
  tab := tab_ok
  mixed := mixed_ok
  call g vs p _ _ h := by
    unfold z71.C at h; simp only at h; split at h
    · exact z39.sound vs p h
    · exact z25.sound vs p h
    · simp at h
  clone g e _ h := by
    simp [z71.C] at h
theorem z71.hdec : ∀ v r, z71.dec v = some r → relax3 v = z71.enc r ∧ imm3 (z71.enc r) = true := by
  intro v r h
  unfold z71.dec at h
  split at h
  case h_2 => simp at h
  simp only [Option.some.injEq] at h
  subst h
  exact ⟨rfl, rfl⟩
theorem z71.pk {vs : List V} {p : Pack} (h : z71.pack vs = some p) : ∃ (h0 : Bool) (h1 : Bool) (a0 : List Int) (a1 : Bool) (a2 : List Int), vs = [(.agg [(.ints h0 .u64 a0), (.bool a1), (.ints h1 .u64 a2)])] ∧ p = ⟨(List Int), z71.F a0 a1 a2, z71.enc⟩ := by
  unfold z71.pack at h
  split at h
  case h_2 => simp at h
  simp only [Option.some.injEq] at h
  exact ⟨_, _, _, _, _, rfl, h.symm⟩
theorem z71.sound (vs : List V) (p : Pack) (h : z71.pack vs = some p) : SoundC Tryz.prog 130 vs p := by
  obtain ⟨h0, h1, a0, a1, a2, rfl, rfl⟩ := z71.pk h
  exact top_sound z71.ctx z71.inlF fun130 (z71.loopsT (inl_ok z71.ctx z71.inlF 6)) rfl (z71.link a0 a1 a2) z71.hdec
theorem fun157 : FunOK Tryz.prog 157 Tryz.f157 (ifun Tryz.f157).body := ⟨Tryz.func157, rfl, by kernel_rfl⟩
theorem once157 : loopsOnce (ifun Tryz.f157).body = true := by kernel_rfl
theorem z72.loopsT (hI : InlOK Tryz.prog z72.C fun R => z72.C.inlK 6) : LoopsOK z72.C (fun R => z72.C.inlK 6) 157 0 (ifun Tryz.f157).body := by
  intro id b hm st p hp
  obtain rfl := loopsOnce_mem once157 hm
  simp [z72.C] at hp
theorem z72.inlF : InlF Tryz.prog z72.C where
  prim g h hp := by simp [z72.C] at hp
  fn g fn h := by simp [z72.C] at h
  loops g fn h := by simp [z72.C] at h
theorem z72.ctx : CtxOK Tryz.prog z72.C where
  tab := tab_ok
  mixed := mixed_ok
  call g vs p _ _ h := by
    unfold z72.C at h; simp only at h; split at h
    · exact z71.sound vs p h
    · exact z22.sound vs p h
    · simp at h
  clone g e _ h := by
    simp [z72.C] at h
theorem z72.hdec : ∀ v r, z72.dec v = some r → relax3 v = z72.enc r ∧ imm3 (z72.enc r) = true := by
  intro v r h
  unfold z72.dec at h
  split at h
  case h_2 => simp at h
  simp only [Option.some.injEq] at h
  subst h
  exact ⟨rfl, rfl⟩
theorem z72.pk {vs : List V} {p : Pack} (h : z72.pack vs = some p) : ∃ (h0 : Bool) (h1 : Bool) (a0 : List Int) (a1 : Bool) (a2 : List Int), vs = [(.agg [(.ints h0 .u64 a0), (.bool a1), (.ints h1 .u64 a2)])] ∧ p = ⟨(List Int) × Bool, z72.F a0 a1 a2, z72.enc⟩ := by
  unfold z72.pack at h
  split at h
  case h_2 => simp at h
  simp only [Option.some.injEq] at h
  exact ⟨_, _, _, _, _, rfl, h.symm⟩
theorem z72.sound (vs : List V) (p : Pack) (h : z72.pack vs = some p) : SoundC Tryz.prog 157 vs p := by
  obtain ⟨h0, h1, a0, a1, a2, rfl, rfl⟩ := z72.pk h
  exact top_sound z72.ctx z72.inlF fun157 (z72.loopsT (inl_ok z72.ctx z72.inlF 6)) rfl (z72.link a0 a1 a2) z72.hdec
theorem fun124 : FunOK Tryz.prog 124 Tryz.f124 (ifun Tryz.f124).body := ⟨Tryz.func124, rfl, by kernel_rfl⟩
theorem once124 : loopsOnce (ifun Tryz.f124).body = true := by kernel_rfl
theorem z73.loopsT (hI : InlOK Tryz.prog z73.C fun R => z73.C.inlK 6) : LoopsOK z73.C (fun R => z73.C.inlK 6) 124 0 (ifun Tryz.f124).body := by
  intro id b hm st p hp
  obtain rfl := loopsOnce_mem once124 hm
  simp [z73.C] at hp
theorem z73.inlF : InlF Tryz.prog z73.C where
  prim g h hp := by simp [z73.C] at hp
  fn g fn h := by simp [z73.C] at h
  loops g fn h := by simp [z73.C] at h
theorem z73.ctx : CtxOK Tryz.prog z73.C where
  tab := tab_ok
  mixed := mixed_ok
  call g vs p _ _ h := by
    unfold z73.C at h; simp only at h; split at h
    · exact z72.sound vs p h
    · exact z55.sound vs p h
    · exact z69.sound vs p h
    · simp at h
  clone g e _ h := by
    simp [z73.C] at h
theorem z73.hdec : ∀ v r, z73.dec v = some r → relax3 v = z73.enc r ∧ imm3 (z73.enc r) = true := by
  intro v r h
  unfold z73.dec at h
  split at h
  case h_2 => simp at h
  simp only [Option.some.injEq] at h
  subst h
  exact ⟨rfl, rfl⟩
theorem z73.pk {vs : List V} {p : Pack} (h : z73.pack vs = some p) : ∃ (h0 : Bool) (h1 : Bool) (h2 : Bool) (h3 : Bool) (a0 : List Int) (a1 : Bool) (a2 : List Int) (a3 : List Int) (a4 : Bool) (a5 : List Int), vs = [(.agg [(.ints h0 .u64 a0), (.bool a1), (.ints h1 .u64 a2)]), (.agg [(.ints h2 .u64 a3), (.bool a4), (.ints h3 .u64 a5)])] ∧ p = ⟨(List Int) × Bool × (List Int) × Int, z73.F a0 a1 a2 a3 a4 a5, z73.enc⟩ := by
  unfold z73.pack at h
  split at h
  case h_2 => simp at h
  simp only [Option.some.injEq] at h
  exact ⟨_, _, _, _, _, _, _, _, _, _, rfl, h.symm⟩
theorem z73.sound (vs : List V) (p : Pack) (h : z73.pack vs = some p) : SoundC Tryz.prog 124 vs p := by
  obtain ⟨h0, h1, h2, h3, a0, a1, a2, a3, a4, a5, rfl, rfl⟩ := z73.pk h
  exact top_sound z73.ctx z73.inlF fun124 (z73.loopsT (inl_ok z73.ctx z73.inlF 6)) rfl (z73.link a0 a1 a2 a3 a4 a5) z73.hdec
theorem fun38 : FunOK Tryz.prog 38 Tryz.f38 (ifun Tryz.f38).body := ⟨Tryz.func38, rfl, by kernel_rfl⟩
theorem once38 : loopsOnce (ifun Tryz.f38).body = true := by kernel_rfl
theorem z74.loopsT (hI : InlOK Tryz.prog z74.C fun R => z74.C.inlK 6) : LoopsOK z74.C (fun R => z74.C.inlK 6) 38 0 (ifun Tryz.f38).body := by
  intro id b hm st p hp
  obtain rfl := loopsOnce_mem once38 hm
  simp [z74.C] at hp
theorem z74.inlF : InlF Tryz.prog z74.C where
  prim g h hp := by simp [z74.C] at hp
  fn g fn h := by simp [z74.C] at h
  loops g fn h := by simp [z74.C] at h
theorem z74.ctx : CtxOK Tryz.prog z74.C where
  tab := tab_ok
  mixed := mixed_ok
  call g vs p _ _ h := by
    unfold z74.C at h; simp only at h; split at h
    · exact z51.sound vs p h
    · exact z49.sound vs p h
    · exact z53.sound vs p h
    · exact z54.sound vs p h
    · exact z21.sound vs p h
    · exact z58.sound vs p h
    · exact z59.sound vs p h
    · exact z70.sound vs p h
    · exact z48.sound vs p h
    · exact z73.sound vs p h
    · simp at h
  clone g e _ h := by
    simp [z74.C] at h
theorem z74.hdec : ∀ v r, z74.dec v = some r → relax3 v = z74.enc r ∧ imm3 (z74.enc r) = true := by
  intro v r h
  unfold z74.dec at h
  split at h
  case h_2 => simp at h
  simp only [Option.some.injEq] at h
  subst h
  exact ⟨rfl, rfl⟩
theorem z74.pk {vs : List V} {p : Pack} (h : z74.pack vs = some p) : ∃ (a0 : List UInt8), vs = [(.str a0)] ∧ p = ⟨(List Int) × Bool × (List Int) × Int, z74.F a0, z74.enc⟩ := by
  unfold z74.pack at h
  split at h
  case h_2 => simp at h
  simp only [Option.some.injEq] at h
  exact ⟨_, rfl, h.symm⟩
theorem z74.sound (vs : List V) (p : Pack) (h : z74.pack vs = some p) : SoundC Tryz.prog 38 vs p := by
  obtain ⟨a0, rfl, rfl⟩ := z74.pk h
  exact top_sound z74.ctx z74.inlF fun38 (z74.loopsT (inl_ok z74.ctx z74.inlF 6)) rfl (z74.link a0) z74.hdec
theorem fun137 : FunOK Tryz.prog 137 Tryz.f137 (ifun Tryz.f137).body := ⟨Tryz.func137, rfl, by kernel_rfl⟩
theorem once137 : loopsOnce (ifun Tryz.f137).body = true := by kernel_rfl
theorem z75.loopsT (hI : InlOK Tryz.prog z75.C fun R => z75.C.inlK 6) : LoopsOK z75.C (fun R => z75.C.inlK 6) 137 0 (ifun Tryz.f137).body := by
  intro id b hm st p hp
  obtain rfl := loopsOnce_mem once137 hm
  simp [z75.C] at hp
theorem z75.inlF : InlF Tryz.prog z75.C where
  prim g h hp := by simp [z75.C] at hp
  fn g fn h := by simp [z75.C] at h
  loops g fn h := by simp [z75.C] at h
theorem z75.ctx : CtxOK Tryz.prog z75.C where
  tab := tab_ok
  mixed := mixed_ok
  call g vs p _ _ h := by
    simp [z75.C] at h
  clone g e _ h := by
    simp [z75.C] at h
theorem z75.hdec : ∀ v r, z75.dec v = some r → relax3 v = z75.enc r ∧ imm3 (z75.enc r) = true := by
  intro v r h
  unfold z75.dec at h
  split at h
  case h_2 => simp at h
  simp only [Option.some.injEq] at h
  subst h
  exact ⟨rfl, rfl⟩
theorem z75.pk {vs : List V} {p : Pack} (h : z75.pack vs = some p) : vs = [] ∧ p = ⟨(List (List UInt8)), z75.F, z75.enc⟩ := by
  unfold z75.pack at h
  split at h
  case h_2 => simp at h
  simp only [Option.some.injEq] at h
  exact ⟨rfl, h.symm⟩
theorem z75.sound (vs : List V) (p : Pack) (h : z75.pack vs = some p) : SoundC Tryz.prog 137 vs p := by
  obtain ⟨rfl, rfl⟩ := z75.pk h
  exact top_sound z75.ctx z75.inlF fun137 (z75.loopsT (inl_ok z75.ctx z75.inlF 6)) rfl z75.link z75.hdec
theorem fun47 : FunOK Tryz.prog 47 Tryz.f47 (ifun Tryz.f47).body := ⟨Tryz.func47, rfl, by kernel_rfl⟩
theorem once47 : loopsOnce (ifun Tryz.f47).body = true := by kernel_rfl
theorem z76.loopsT (hI : InlOK Tryz.prog z76.C fun R => z76.C.inlK 6) : LoopsOK z76.C (fun R => z76.C.inlK 6) 47 0 (ifun Tryz.f47).body := by
  intro id b hm st p hp
  obtain rfl := loopsOnce_mem once47 hm
  simp [z76.C] at hp
theorem z76.inlF : InlF Tryz.prog z76.C where
  prim g h hp := by simp [z76.C] at hp
  fn g fn h := by simp [z76.C] at h
  loops g fn h := by simp [z76.C] at h
theorem z76.ctx : CtxOK Tryz.prog z76.C where
  tab := tab_ok
  mixed := mixed_ok
  call g vs p _ _ h := by
    unfold z76.C at h; simp only at h; split at h
    · exact z75.sound vs p h
    · simp at h
  clone g e _ h := by
    simp [z76.C] at h
theorem z76.hdec : ∀ v r, z76.dec v = some r → relax3 v = z76.enc r ∧ imm3 (z76.enc r) = true := by
  intro v r h
  unfold z76.dec at h
  split at h
  case h_2 => simp at h
  simp only [Option.some.injEq] at h
  subst h
  exact ⟨rfl, rfl⟩
theorem z76.pk {vs : List V} {p : Pack} (h : z76.pack vs = some p) : ∃ (a0 : Int), vs = [(.int .i64 a0)] ∧ p = ⟨(List UInt8), z76.F a0, z76.enc⟩ := by
  unfold z76.pack at h
  split at h
  case h_2 => simp at h
  simp only [Option.some.injEq] at h
  exact ⟨_, rfl, h.symm⟩
theorem z76.sound (vs : List V) (p : Pack) (h : z76.pack vs = some p) : SoundC Tryz.prog 47 vs p := by
  obtain ⟨a0, rfl, rfl⟩ := z76.pk h
  exact top_sound z76.ctx z76.inlF fun47 (z76.loopsT (inl_ok z76.ctx z76.inlF 6)) rfl (z76.link a0) z76.hdec
theorem fun214 : FunOK Tryz.prog 214 Tryz.f214 (ifun Tryz.f214).body := ⟨Tryz.func214, rfl, by kernel_rfl⟩
theorem once214 : loopsOnce (ifun Tryz.f214).body = true := by kernel_rfl
theorem z77.loopsT (hI : InlOK Tryz.prog z77.C fun R => z77.C.inlK 6) : LoopsOK z77.C (fun R => z77.C.inlK 6) 214 0 (ifun Tryz.f214).body := by
  intro id b hm st p hp
  obtain rfl := loopsOnce_mem once214 hm
  simp [z77.C] at hp
theorem z77.inlF : InlF Tryz.prog z77.C where
  prim g h hp := by simp [z77.C] at hp
  fn g fn h := by simp [z77.C] at h
  loops g fn h := by simp [z77.C] at h
theorem z77.ctx : CtxOK Tryz.prog z77.C where
  tab := tab_ok
  mixed := mixed_ok
  call g vs p _ _ h := by
    simp [z77.C] at h
  clone g e _ h := by
    simp [z77.C] at h
theorem z77.hdec : ∀ v r, z77.dec v = some r → relax3 v = z77.enc r ∧ imm3 (z77.enc r) = true := by
  intro v r h
  unfold z77.dec at h
  split at h
  case h_2 => simp at h
  simp only [Option.some.injEq] at h
  subst h
  exact ⟨rfl, rfl⟩
theorem z77.pk {vs : List V} {p : Pack} (h : z77.pack vs = some p) : ∃ (a0 : Int), vs = [(.int .i64 a0)] ∧ p = ⟨Bool, z77.F a0, z77.enc⟩ := by
  unfold z77.pack at h
  split at h
  case h_2 => simp at h
  simp only [Option.some.injEq] at h
  exact ⟨_, rfl, h.symm⟩
theorem z77.sound (vs : List V) (p : Pack) (h : z77.pack vs = some p) : SoundC Tryz.prog 214 vs p := by
  obtain ⟨a0, rfl, rfl⟩ := z77.pk h
  exact top_sound z77.ctx z77.inlF fun214 (z77.loopsT (inl_ok z77.ctx z77.inlF 6)) rfl (z77.link a0) z77.hdec
theorem fun215 : FunOK Tryz.prog 215 Tryz.f215 (ifun Tryz.f215).body := ⟨Tryz.func215, rfl, by kernel_rfl⟩
theorem once215 : loopsOnce (ifun Tryz.f215).body = true := by kernel_rfl
theorem z78.loopsT (hI : InlOK Tryz.prog z78.C fun R => z78.C.inlK 6) : LoopsOK z78.C (fun R => z78.C.inlK 6) 215 0 (ifun Tryz.f215).body := by
  intro id b hm st p hp
  obtain rfl := loopsOnce_mem once215 hm
  simp [z78.C] at hp
theorem z78.inlF : InlF Tryz.prog z78.C where
  prim g h hp := by simp [z78.C] at hp
  fn g fn h := by simp [z78.C] at h
  loops g fn h := by simp [z78.C] at h
theorem z78.ctx : CtxOK Tryz.prog z78.C where
  tab := tab_ok
  mixed := mixed_ok
  call g vs p _ _ h := by
    simp [z78.C] at h
  clone g e _ h := by
    simp [z78.C] at h
theorem z78.hdec : ∀ v r, z78.dec v = some r → relax3 v = z78.enc r ∧ imm3 (z78.enc r) = true := by
  intro v r h
  unfold z78.dec at h
  split at h
  case h_2 => simp at h
  simp only [Option.some.injEq] at h
  subst h
  exact ⟨rfl, rfl⟩
theorem z78.pk {vs : List V} {p : Pack} (h : z78.pack vs = some p) : vs = [] ∧ p = ⟨(List (List UInt8)), z78.F, z78.enc⟩ := by
  unfold z78.pack at h
  split at h
  case h_2 => simp at h
  simp only [Option.some.injEq] at h
  exact ⟨rfl, h.symm⟩
theorem z78.sound (vs : List V) (p : Pack) (h : z78.pack vs = some p) : SoundC Tryz.prog 215 vs p := by
  obtain ⟨rfl, rfl⟩ := z78.pk h
  exact top_sound z78.ctx z78.inlF fun215 (z78.loopsT (inl_ok z78.ctx z78.inlF 6)) rfl z78.link z78.hdec
theorem fun149 : FunOK Tryz.prog 149 Tryz.f149 (ifun Tryz.f149).body := ⟨Tryz.func149, rfl, by kernel_rfl⟩
theorem once149 : loopsOnce (ifun Tryz.f149).body = true := by kernel_rfl
theorem z79.loopsT (hI : InlOK Tryz.prog z79.C fun R => z79.C.inlK 6) : LoopsOK z79.C (fun R => z79.C.inlK 6) 149 0 (ifun Tryz.f149).body := by
  intro id b hm st p hp
  obtain rfl := loopsOnce_mem once149 hm
  simp [z79.C] at hp
theorem z79.inlF : InlF Tryz.prog z79.C where
  prim g h hp := by simp [z79.C] at hp
  fn g fn h := by simp [z79.C] at h
  loops g fn h := by simp [z79.C] at h
theorem z79.ctx : CtxOK Tryz.prog z79.C where
  tab := tab_ok
  mixed := mixed_ok
  call g vs p _ _ h := by
    unfold z79.C at h; simp only at h; split at h
    · exact z77.sound vs p h
    · exact z78.sound vs p h
    · simp at h
  clone g e _ h := by
    simp [z79.C] at h
theorem z79.hdec : ∀ v r, z79.dec v = some r → relax3 v = z79.enc r ∧ imm3 (z79.enc r) = true := by
  intro v r h
  unfold z79.dec at h
  split at h
  case h_2 => simp at h
  simp only [Option.some.injEq] at h
  subst h
  exact ⟨rfl, rfl⟩
theorem z79.pk {vs : List V} {p : Pack} (h : z79.pack vs = some p) : ∃ (a0 : Int), vs = [(.int .i64 a0)] ∧ p = ⟨(List UInt8), z79.F a0, z79.enc⟩ := by
  unfold z79.pack at h
  split at h
  case h_2 => simp at h
  simp only [Option.some.injEq] at h
  exact ⟨_, rfl, h.symm⟩
theorem z79.sound (vs : List V) (p : Pack) (h : z79.pack vs = some p) : SoundC Tryz.prog 149 vs p := by
  obtain ⟨a0, rfl, rfl⟩ := z79.pk h
  exact top_sound z79.ctx z79.inlF fun149 (z79.loopsT (inl_ok z79.ctx z79.inlF 6)) rfl (z79.link a0) z79.hdec
theorem fun228 : FunOK Tryz.prog 228 Tryz.f228 (ifun Tryz.f228).body := ⟨Tryz.func228, rfl, by kernel_rfl⟩
theorem once228 : loopsOnce (ifun Tryz.f228).body = true := by kernel_rfl
theorem z80.loopsT (hI : InlOK Tryz.prog z80.C fun R => z80.C.inlK 6) : LoopsOK z80.C (fun R => z80.C.inlK 6) 228 0 (ifun Tryz.f228).body := by
  intro id b hm st p hp
  obtain rfl := loopsOnce_mem once228 hm
  simp [z80.C] at hp
theorem z80.inlF : InlF Tryz.prog z80.C where
  prim g h hp := by simp [z80.C] at hp
  fn g fn h := by simp [z80.C] at h
  loops g fn h := by simp [z80.C] at h
theorem z80.ctx : CtxOK Tryz.prog z80.C where
  tab := tab_ok
  mixed := mixed_ok
  call g vs p _ _ h := by
    simp [z80.C] at h
  clone g e _ h := by
    simp [z80.C] at h
theorem z80.hdec : ∀ v r, z80.dec v = some r → relax3 v = z80.enc r ∧ imm3 (z80.enc r) = true := by
  intro v r h
  unfold z80.dec at h
  split at h
  case h_2 => simp at h
  simp only [Option.some.injEq] at h
  subst h
  exact ⟨rfl, rfl⟩
theorem z80.pk {vs : List V} {p : Pack} (h : z80.pack vs = some p) : ∃ (a0 : Int), vs = [(.int .i64 a0)] ∧ p = ⟨Bool, z80.F a0, z80.enc⟩ := by
  unfold z80.pack at h
  split at h
  case h_2 => simp at h
  simp only [Option.some.injEq] at h
  exact ⟨_, rfl, h.symm⟩
theorem z80.sound (vs : List V) (p : Pack) (h : z80.pack vs = some p) : SoundC Tryz.prog 228 vs p := by
  obtain ⟨a0, rfl, rfl⟩ := z80.pk h
  exact top_sound z80.ctx z80.inlF fun228 (z80.loopsT (inl_ok z80.ctx z80.inlF 6)) rfl (z80.link a0) z80.hdec
theorem fun257 : FunOK Tryz.prog 257 Tryz.f257 (ifun Tryz.f257).body := ⟨Tryz.func257, rfl, by kernel_rfl⟩
theorem once257 : loopsOnce (ifun Tryz.f257).body = true := by kernel_rfl
theorem z81.loopsT (hI : InlOK Tryz.prog z81.C fun R => z81.C.inlK 6) : LoopsOK z81.C (fun R => z81.C.inlK 6) 257 0 (ifun Tryz.f257).body := by
  intro id b hm st p hp
  obtain rfl := loopsOnce_mem once257 hm
  simp [z81.C] at hp
theorem z81.inlF : InlF Tryz.prog z81.C where
  prim g h hp := by simp [z81.C] at hp
  fn g fn h := by simp [z81.C] at h
  loops g fn h := by simp [z81.C] at h
theorem z81.ctx : CtxOK Tryz.prog z81.C where
  tab := tab_ok
  mixed := mixed_ok
  call g vs p _ _ h := by
    simp [z81.C] at h
  clone g e _ h := by
    simp [z81.C] at h
theorem z81.hdec : ∀ v r, z81.dec v = some r → relax3 v = z81.enc r ∧ imm3 (z81.enc r) = true := by
  intro v r h
  unfold z81.dec at h
  split at h
  case h_2 => simp at h
  simp only [Option.some.injEq] at h
  subst h
  exact ⟨rfl, rfl⟩
theorem z81.pk {vs : List V} {p : Pack} (h : z81.pack vs = some p) : vs = [] ∧ p = ⟨(List (List UInt8)), z81.F, z81.enc⟩ := by
  unfold z81.pack at h
  split at h
  case h_2 => simp at h
  simp only [Option.some.injEq] at h
  exact ⟨rfl, h.symm⟩
theorem z81.sound (vs : List V) (p : Pack) (h : z81.pack vs = some p) : SoundC Tryz.prog 257 vs p := by
  obtain ⟨rfl, rfl⟩ := z81.pk h
  exact top_sound z81.ctx z81.inlF fun257 (z81.loopsT (inl_ok z81.ctx z81.inlF 6)) rfl z81.link z81.hdec
theorem fun209 : FunOK Tryz.prog 209 Tryz.f209 (ifun Tryz.f209).body := ⟨Tryz.func209, rfl, by kernel_rfl⟩
theorem once209 : loopsOnce (ifun Tryz.f209).body = true := by kernel_rfl
theorem z82.loopsT (hI : InlOK Tryz.prog z82.C fun R => z82.C.inlK 6) : LoopsOK z82.C (fun R => z82.C.inlK 6) 209 0 (ifun Tryz.f209).body := by
  intro id b hm st p hp
  obtain rfl := loopsOnce_mem once209 hm
  simp [z82.C] at hp
theorem z82.inlF : InlF Tryz.prog z82.C where
  prim g h hp := by simp [z82.C] at hp
  fn g fn h := by simp [z82.C] at h
  loops g fn h := by simp [z82.C] at h
theorem z82.ctx : CtxOK Tryz.prog z82.C where
  tab := tab_ok
  mixed := mixed_ok
  call g vs p _ _ h := by
    unfold z82.C at h; simp only at h; split at h
    · exact z80.sound vs p h
    · exact z81.sound vs p h
    · simp at h
  clone g e _ h := by
    simp [z82.C] at h
theorem z82.hdec : ∀ v r, z82.dec v = some r → relax3 v = z82.enc r ∧ imm3 (z82.enc r) = true := by
  intro v r h
  unfold z82.dec at h
  split at h
  case h_2 => simp at h
  simp only [Option.some.injEq] at h
  subst h
  exact ⟨rfl, rfl⟩
theorem z82.pk {vs : List V} {p : Pack} (h : z82.pack vs = some p) : ∃ (a0 : Int), vs = [(.int .i64 a0)] ∧ p = ⟨(List UInt8), z82.F a0, z82.enc⟩ := by
  unfold z82.pack at h
  split at h
  case h_2 => simp at h
  simp only [Option.some.injEq] at h
  exact ⟨_, rfl, h.symm⟩
theorem z82.sound (vs : List V) (p : Pack) (h : z82.pack vs = some p) : SoundC Tryz.prog 209 vs p := by
  obtain ⟨a0, rfl, rfl⟩ := z82.pk h
  exact top_sound z82.ctx z82.inlF fun209 (z82.loopsT (inl_ok z82.ctx z82.inlF 6)) rfl (z82.link a0) z82.hdec
theorem fun133 : FunOK Tryz.prog 133 Tryz.f133 (ifun Tryz.f133).body := ⟨Tryz.func133, rfl, by kernel_rfl⟩
theorem once133 : loopsOnce (ifun Tryz.f133).body = true := by kernel_rfl
theorem z83.loopsT (hI : InlOK Tryz.prog z83.C fun R => z83.C.inlK 6) : LoopsOK z83.C (fun R => z83.C.inlK 6) 133 0 (ifun Tryz.f133).body := by
  intro id b hm st p hp
  obtain rfl := loopsOnce_mem once133 hm
  simp [z83.C] at hp
theorem z83.inlF : InlF Tryz.prog z83.C where
  prim g h hp := by simp [z83.C] at hp
  fn g fn h := by simp [z83.C] at h
  loops g fn h := by simp [z83.C] at h
theorem z83.ctx : CtxOK Tryz.prog z83.C where
  tab := tab_ok
  mixed := mixed_ok
  call g vs p _ _ h := by
    unfold z83.C at h; simp only at h; split at h
    · exact z76.sound vs p h
    · exact z82.sound vs p h
    · exact z79.sound vs p h
    · simp at h
  clone g e _ h := by
    simp [z83.C] at h
theorem z83.hdec : ∀ v r, z83.dec v = some r → relax3 v = z83.enc r ∧ imm3 (z83.enc r) = true := by
  intro v r h
  unfold z83.dec at h
  split at h
  case h_2 => simp at h
  simp only [Option.some.injEq] at h
  subst h
  exact ⟨rfl, rfl⟩
theorem z83.pk {vs : List V} {p : Pack} (h : z83.pack vs = some p) : ∃ (a0 : List UInt8) (a1 : List UInt8) (a2 : Int) (a3 : Int) (a4 : Int) (a5 : Int) (a6 : Int) (a7 : Int) (a8 : Int) (a9 : Int), vs = [(.agg [(.str a0), (.str a1), (.int .i64 a2), (.int .i64 a3), (.int .i64 a4), (.int .i64 a5), (.int .i64 a6), (.int .i64 a7), (.int .i64 a8), (.int .i64 a9)])] ∧ p = ⟨Bool, z83.F a0 a1 a2 a3 a4 a5 a6 a7 a8 a9, z83.enc⟩ := by
  unfold z83.pack at h
  split at h
  case h_2 => simp at h
  simp only [Option.some.injEq] at h
  exact ⟨_, _, _, _, _, _, _, _, _, _, rfl, h.symm⟩
theorem z83.sound (vs : List V) (p : Pack) (h : z83.pack vs = some p) : SoundC Tryz.prog 133 vs p := by
  obtain ⟨a0, a1, a2, a3, a4, a5, a6, a7, a8, a9, rfl, rfl⟩ := z83.pk h
  exact top_sound z83.ctx z83.inlF fun133 (z83.loopsT (inl_ok z83.ctx z83.inlF 6)) rfl (z83.link a0 a1 a2 a3 a4 a5 a6 a7 a8 a9) z83.hdec
theorem fun258 : FunOK Tryz.prog 258 Tryz.f258 (ifun Tryz.f258).body := ⟨Tryz.func258, rfl, by kernel_rfl⟩
theorem once258 : loopsOnce (ifun Tryz.f258).body = true := by kernel_rfl
theorem z84.loopsT (hI : InlOK Tryz.prog z84.C fun R => z84.C.inlK 6) : LoopsOK z84.C (fun R => z84.C.inlK 6) 258 0 (ifun Tryz.f258).body := by
  intro id b hm st p hp
  obtain rfl := loopsOnce_mem once258 hm
  simp [z84.C] at hp
theorem z84.inlF : InlF Tryz.prog z84.C where
  prim g h hp := by simp [z84.C] at hp
  fn g fn h := by simp [z84.C] at h
  loops g fn h := by simp [z84.C] at h
theorem z84.ctx : CtxOK Tryz.prog z84.C where
  tab := tab_ok
  mixed := mixed_ok
  call g vs p _ _ h := by
    simp [z84.C] at h
  clone g e _ h := by
    simp [z84.C] at h
theorem z84.hdec : ∀ v r, z84.dec v = some r → relax3 v = z84.enc r ∧ imm3 (z84.enc r) = true := by
  intro v r h
  unfold z84.dec at h
  split at h
  case h_2 => simp at h
  simp only [Option.some.injEq] at h
  subst h
  exact ⟨rfl, rfl⟩
theorem z84.pk {vs : List V} {p : Pack} (h : z84.pack vs = some p) : ∃ (a0 : Int), vs = [(.int .i64 a0)] ∧ p = ⟨Bool, z84.F a0, z84.enc⟩ := by
  unfold z84.pack at h
  split at h
  case h_2 => simp at h
  simp only [Option.some.injEq] at h
  exact ⟨_, rfl, h.symm⟩
theorem z84.sound (vs : List V) (p : Pack) (h : z84.pack vs = some p) : SoundC Tryz.prog 258 vs p := by
  obtain ⟨a0, rfl, rfl⟩ := z84.pk h
  exact top_sound z84.ctx z84.inlF fun258 (z84.loopsT (inl_ok z84.ctx z84.inlF 6)) rfl (z84.link a0) z84.hdec
theorem fun259 : FunOK Tryz.prog 259 Tryz.f259 (ifun Tryz.f259).body := ⟨Tryz.func259, rfl, by kernel_rfl⟩
theorem once259 : loopsOnce (ifun Tryz.f259).body = true := by kernel_rfl
theorem z85.loopsT (hI : InlOK Tryz.prog z85.C fun R => z85.C.inlK 6) : LoopsOK z85.C (fun R => z85.C.inlK 6) 259 0 (ifun Tryz.f259).body := by
  intro id b hm st p hp
  obtain rfl := loopsOnce_mem once259 hm
  simp [z85.C] at hp
theorem z85.inlF : InlF Tryz.prog z85.C where
  prim g h hp := by simp [z85.C] at hp
  fn g fn h := by simp [z85.C] at h
  loops g fn h := by simp [z85.C] at h
theorem z85.ctx : CtxOK Tryz.prog z85.C where
  tab := tab_ok
  mixed := mixed_ok
  call g vs p _ _ h := by
    unfold z85.C at h; simp only at h; split at h
    · exact z84.sound vs p h
    · simp at h
  clone g e _ h := by
    simp [z85.C] at h
theorem z85.hdec : ∀ v r, z85.dec v = some r → relax3 v = z85.enc r ∧ imm3 (z85.enc r) = true := by
  intro v r h
  unfold z85.dec at h
  split at h
  case h_2 => simp at h
  simp only [Option.some.injEq] at h
  subst h
  exact ⟨rfl, rfl⟩
theorem z85.pk {vs : List V} {p : Pack} (h : z85.pack vs = some p) : ∃ (a0 : Int), vs = [(.int .i64 a0)] ∧ p = ⟨Bool, z85.F a0, z85.enc⟩ := by
  unfold z85.pack at h
  split at h
  case h_2 => simp at h
  simp only [Option.some.injEq] at h
  exact ⟨_, rfl, h.symm⟩
theorem z85.sound (vs : List V) (p : Pack) (h : z85.pack vs = some p) : SoundC Tryz.prog 259 vs p := by
  obtain ⟨a0, rfl, rfl⟩ := z85.pk h
  exact top_sound z85.ctx z85.inlF fun259 (z85.loopsT (inl_ok z85.ctx z85.inlF 6)) rfl (z85.link a0) z85.hdec
theorem fun210 : FunOK Tryz.prog 210 Tryz.f210 (ifun Tryz.f210).body := ⟨Tryz.func210, rfl, by kernel_rfl⟩
theorem once210 : loopsOnce (ifun Tryz.f210).body = true := by kernel_rfl
theorem z86.loopsT (hI : InlOK Tryz.prog z86.C fun R => z86.C.inlK 6) : LoopsOK z86.C (fun R => z86.C.inlK 6) 210 0 (ifun Tryz.f210).body := by
  intro id b hm st p hp
  obtain rfl := loopsOnce_mem once210 hm
  simp [z86.C] at hp
theorem z86.inlF : InlF Tryz.prog z86.C where
  prim g h hp := by simp [z86.C] at hp
  fn g fn h := by simp [z86.C] at h
  loops g fn h := by simp [z86.C] at h
theorem z86.ctx : CtxOK Tryz.prog z86.C where
  tab := tab_ok
  mixed := mixed_ok
  call g vs p _ _ h := by
    unfold z86.C at h; simp only at h; split at h
    · exact z84.sound vs p h
    · exact z85.sound vs p h
    · simp at h
  clone g e _ h := by
    simp [z86.C] at h
theorem z86.hdec : ∀ v r, z86.dec v = some r → relax3 v = z86.enc r ∧ imm3 (z86.enc r) = true := by
  intro v r h
  unfold z86.dec at h
  split at h
  case h_2 => simp at h
  simp only [Option.some.injEq] at h
  subst h
  exact ⟨rfl, rfl⟩
theorem z86.pk {vs : List V} {p : Pack} (h : z86.pack vs = some p) : ∃ (a0 : Int) (a1 : Int), vs = [(.int .i64 a0), (.int .i64 a1)] ∧ p = ⟨Int, z86.F a0 a1, z86.enc⟩ := by
  unfold z86.pack at h
  split at h
  case h_2 => simp at h
  simp only [Option.some.injEq] at h
  exact ⟨_, _, rfl, h.symm⟩
theorem z86.sound (vs : List V) (p : Pack) (h : z86.pack vs = some p) : SoundC Tryz.prog 210 vs p := by
  obtain ⟨a0, a1, rfl, rfl⟩ := z86.pk h
  exact top_sound z86.ctx z86.inlF fun210 (z86.loopsT (inl_ok z86.ctx z86.inlF 6)) rfl (z86.link a0 a1) z86.hdec
theorem fun142 : FunOK Tryz.prog 142 Tryz.f142 (ifun Tryz.f142).body := ⟨Tryz.func142, rfl, by kernel_rfl⟩
theorem once142 : loopsOnce (ifun Tryz.f142).body = true := by kernel_rfl
theorem z87.loopsT (hI : InlOK Tryz.prog z87.C fun R => z87.C.inlK 6) : LoopsOK z87.C (fun R => z87.C.inlK 6) 142 0 (ifun Tryz.f142).body := by
  intro id b hm st p hp
  obtain rfl := loopsOnce_mem once142 hm
  simp [z87.C] at hp
theorem z87.inlF : InlF Tryz.prog z87.C where
  prim g h hp := by simp [z87.C] at hp
  fn g fn h := by simp [z87.C] at h
  loops g fn h := by simp [z87.C] at h
theorem z87.ctx : CtxOK Tryz.prog z87.C where
  tab := tab_ok
  mixed := mixed_ok
  call g vs p _ _ h := by
    unfold z87.C at h; simp only at h; split at h
    · exact z86.sound vs p h
    · simp at h
  clone g e _ h := by
    simp [z87.C] at h
theorem z87.hdec : ∀ v r, z87.dec v = some r → relax3 v = z87.enc r ∧ imm3 (z87.enc r) = true := by
  intro v r h
  unfold z87.dec at h
  split at h
  case h_2 => simp at h
  simp only [Option.some.injEq] at h
  subst h
  exact ⟨rfl, rfl⟩
theorem z87.pk {vs : List V} {p : Pack} (h : z87.pack vs = some p) : ∃ (a0 : Int) (a1 : Int) (a2 : Int), vs = [(.agg [(.int .i64 a0), (.int .i64 a1), (.int .i64 a2)])] ∧ p = ⟨Int, z87.F a0 a1 a2, z87.enc⟩ := by
  unfold z87.pack at h
  split at h
  case h_2 => simp at h
  simp only [Option.some.injEq] at h
  exact ⟨_, _, _, rfl, h.symm⟩
theorem z87.sound (vs : List V) (p : Pack) (h : z87.pack vs = some p) : SoundC Tryz.prog 142 vs p := by
  obtain ⟨a0, a1, a2, rfl, rfl⟩ := z87.pk h
  exact top_sound z87.ctx z87.inlF fun142 (z87.loopsT (inl_ok z87.ctx z87.inlF 6)) rfl (z87.link a0 a1 a2) z87.hdec
theorem fun134 : FunOK Tryz.prog 134 Tryz.f134 (ifun Tryz.f134).body := ⟨Tryz.func134, rfl, by kernel_rfl⟩
theorem once134 : loopsOnce (ifun Tryz.f134).body = true := by kernel_rfl
theorem z88.loopsT (hI : InlOK Tryz.prog z88.C fun R => z88.C.inlK 6) : LoopsOK z88.C (fun R => z88.C.inlK 6) 134 0 (ifun Tryz.f134).body := by
  intro id b hm st p hp
  obtain rfl := loopsOnce_mem once134 hm
  simp [z88.C] at hp
theorem z88.inlF : InlF Tryz.prog z88.C where
  prim g h hp := by simp [z88.C] at hp
  fn g fn h := by simp [z88.C] at h
  loops g fn h := by simp [z88.C] at h
theorem z88.ctx : CtxOK Tryz.prog z88.C where
  tab := tab_ok
  mixed := mixed_ok
  call g vs p _ _ h := by
    unfold z88.C at h; simp only at h; split at h
    · exact z87.sound vs p h
    · exact z86.sound vs p h
    · simp at h
  clone g e _ h := by
    simp [z88.C] at h
theorem z88.hdec : ∀ v r, z88.dec v = some r → relax3 v = z88.enc r ∧ imm3 (z88.enc r) = true := by
  intro v r h
  unfold z88.dec at h
  split at h
  case h_2 => simp at h
  simp only [Option.some.injEq] at h
  subst h
  exact ⟨rfl, rfl⟩
theorem z88.pk {vs : List V} {p : Pack} (h : z88.pack vs = some p) : ∃ (a0 : Int) (a1 : Int) (a2 : Int) (a3 : Int), vs = [(.agg [(.int .i64 a0), (.int .i64 a1), (.int .i64 a2)]), (.int .i64 a3)] ∧ p = ⟨Int × Int × Int × Int, z88.F a0 a1 a2 a3, z88.enc⟩ := by
  unfold z88.pack at h
  split at h
  case h_2 => simp at h
  simp only [Option.some.injEq] at h
  exact ⟨_, _, _, _, rfl, h.symm⟩
theorem z88.sound (vs : List V) (p : Pack) (h : z88.pack vs = some p) : SoundC Tryz.prog 134 vs p := by
  obtain ⟨a0, a1, a2, a3, rfl, rfl⟩ := z88.pk h
  exact top_sound z88.ctx z88.inlF fun134 (z88.loopsT (inl_ok z88.ctx z88.inlF 6)) rfl (z88.link a0 a1 a2 a3) z88.hdec
theorem fun44 : FunOK Tryz.prog 44 Tryz.f44 (ifun Tryz.f44).body := ⟨Tryz.func44, rfl, by kernel_rfl⟩
theorem once44 : loopsOnce (ifun Tryz.f44).body = true := by kernel_rfl
theorem z89.loopsT (hI : InlOK Tryz.prog z89.C fun R => z89.C.inlK 6) : LoopsOK z89.C (fun R => z89.C.inlK 6) 44 0 (ifun Tryz.f44).body := by
  intro id b hm st p hp
  obtain rfl := loopsOnce_mem once44 hm
  simp [z89.C] at hp
theorem z89.inlF : InlF Tryz.prog z89.C where
  prim g h hp := by simp [z89.C] at hp
  fn g fn h := by simp [z89.C] at h
  loops g fn h := by simp [z89.C] at h
theorem z89.ctx : CtxOK Tryz.prog z89.C where
  tab := tab_ok
  mixed := mixed_ok
  call g vs p _ _ h := by
    unfold z89.C at h; simp only at h; split at h
    · exact z47.sound vs p h
    · exact z21.sound vs p h
    · exact z74.sound vs p h
    · exact z83.sound vs p h
    · exact z88.sound vs p h
    · simp at h
  clone g e _ h := by
    simp [z89.C] at h
theorem z89.hdec : ∀ v r, z89.dec v = some r → relax3 v = z89.enc r ∧ imm3 (z89.enc r) = true := by
  intro v r h
  unfold z89.dec at h
  split at h
  case h_2 => simp at h
  simp only [Option.some.injEq] at h
  subst h
  exact ⟨rfl, rfl⟩
theorem z89.pk {vs : List V} {p : Pack} (h : z89.pack vs = some p) : ∃ (a0 : List UInt8) (a1 : List UInt8) (a2 : Int) (a3 : Int) (a4 : Int) (a5 : Int) (a6 : Int) (a7 : Int) (a8 : Int) (a9 : Int), vs = [(.agg [(.str a0), (.str a1), (.int .i64 a2), (.int .i64 a3), (.int .i64 a4), (.int .i64 a5), (.int .i64 a6), (.int .i64 a7), (.int .i64 a8), (.int .i64 a9)])] ∧ p = ⟨Int, z89.F a0 a1 a2 a3 a4 a5 a6 a7 a8 a9, z89.enc⟩ := by
  unfold z89.pack at h
  split at h
  case h_2 => simp at h
  simp only [Option.some.injEq] at h
  exact ⟨_, _, _, _, _, _, _, _, _, _, rfl, h.symm⟩
theorem z89.sound (vs : List V) (p : Pack) (h : z89.pack vs = some p) : SoundC Tryz.prog 44 vs p := by
  obtain ⟨a0, a1, a2, a3, a4, a5, a6, a7, a8, a9, rfl, rfl⟩ := z89.pk h
  exact top_sound z89.ctx z89.inlF fun44 (z89.loopsT (inl_ok z89.ctx z89.inlF 6)) rfl (z89.link a0 a1 a2 a3 a4 a5 a6 a7 a8 a9) z89.hdec
def z90.l0un : List Leaf → Option (Int × (List (List V)))
  | [.i _, .i _, .i _, .i k1004, .i _, .i _, .i _, .lr _, .lr s1009] => some (k1004, s1009)
  | _ => none
def z90.l0uo0 : List Leaf → Option (Int × (List (List V)))
  | [.i _, .i _, .i _, .i y0, .i _, .i _, .i _, .lr _, .lr y1] => some (y0, y1)
  | _ => none
def z90.l0uo1 : List Leaf → Option ((List (List V)) × Int × (List (List V)))
  | [.lr y0, .i y1, .i _, .i _, .i _, .lr _, .lr y2] => some (y0, y1, y2)
  | _ => none
def z90.l0uo (p : X × Env × Store) : Option ((Int × (List (List V))) ⊕ ((List (List V)) × Int × (List (List V)))) := match p with
  | ((.exit 0), st) => ((matchSt z90.l0so0 st).bind z90.l0uo0).map .inl
  | (.ret, st) => ((matchSt z90.l0so1 st).bind z90.l0uo1).map .inr
  | _ => none
def z90.l0enc (step1001 : Int) (n1002 : Int) (t1003 : Int) (s1005 : Int) (s1006 : Int) (s1007 : Int) (s1008 : List (List V)) (x' : (Int × (List (List V)))) : Env × Store := fillSt z90.l0sh [.i step1001, .i n1002, .i t1003, .i x'.1, .i s1005, .i s1006, .i s1007, .lr s1008, .lr x'.2]
theorem z90.l0pk {ls : List Leaf} {p : LPack} (h : z90.l0pack ls = some p) : ∃ step1001 n1002 t1003 k1004 s1005 s1006 s1007 s1008 s1009, ls = [.i step1001, .i n1002, .i t1003, .i k1004, .i s1005, .i s1006, .i s1007, .lr s1008, .lr s1009] ∧ p = .two _ _ (z90.l0 step1001 n1002 s1005 s1006 s1007 (k1004, s1009)) (z90.l0out0 step1001 n1002 t1003 k1004 s1005 s1006 s1007 s1008 s1009) (z90.l0out1 step1001 n1002 t1003 k1004 s1005 s1006 s1007 s1008 s1009) := by
  unfold z90.l0pack at h
  split at h
  case h_2 => simp at h
  simp only [Option.some.injEq] at h
  exact ⟨_, _, _, _, _, _, _, _, _, rfl, h.symm⟩
theorem z90.l0_sound (hI : InlOK Tryz.prog z90.C fun R => z90.C.inlK 6) (st : Env × Store) (p : LPack) (h : (matchSt z90.l0sh st).bind z90.l0pack = some p) : p.sound (z90.C.loopG (z90.C.inlK 6) 138 0 0 (loopAt 0 (ifun Tryz.f138).body) st.2.length) st := by
  obtain ⟨ls, h1, h2⟩ := Option.bind_eq_some_iff.1 h
  have h1 := matchSt_fill h1
  obtain ⟨step1001, n1002, t1003, k1004, s1005, s1006, s1007, s1008, s1009, rfl, rfl⟩ := z90.l0pk h2
  have hst : st = z90.l0enc step1001 n1002 t1003 s1005 s1006 s1007 s1008 (k1004, s1009) := h1.symm.trans (by kernel_rfl)
  have hn : (z90.l0enc step1001 n1002 t1003 s1005 s1006 s1007 s1008 (k1004, s1009)).2.length = 3 := by kernel_rfl
  rw [hst, hn]
  intro o ho
  have key := lfp_sound (I := fun R => z90.C.inlK 6) hI (σ := (Int × (List (List V)))) (τ := ((Int × (List (List V))) ⊕ ((List (List V)) × Int × (List (List V))))) (fid := 138) (id := 0) (base := 0) (n := 3) (b := (loopAt 0 (ifun Tryz.f138).body)) (F := fun R rec done x => z90.l0P step1001 n1002 s1005 s1006 s1007 rec done x) (enc := z90.l0enc step1001 n1002 t1003 s1005 s1006 s1007 s1008) (dec := fun st => (matchSt z90.l0sh st).bind z90.l0un) (out := fun o => match o with | .inl o => z90.l0out0 step1001 n1002 t1003 k1004 s1005 s1006 s1007 s1008 s1009 o | .inr o => z90.l0out1 step1001 n1002 t1003 k1004 s1005 s1006 s1007 s1008 s1009 o) (decO := z90.l0uo)
    (fun x => by kernel_rfl) (fun o => by cases o <;> kernel_rfl) (fun R k d x' => (z90.l0_link R k d step1001 n1002 t1003 (x'.1) s1005 s1006 s1007 s1008 (x'.2)).trans (congrArg (fun dn => z90.l0P step1001 n1002 s1005 s1006 s1007 (fun x' => k (z90.l0enc step1001 n1002 t1003 s1005 s1006 s1007 s1008 x')) dn x') (funext fun o => by cases o <;> rfl))) (x := (k1004, s1009)) (o := o) ho
  cases o <;> exact key
theorem fun138 : FunOK Tryz.prog 138 Tryz.f138 (ifun Tryz.f138).body := ⟨Tryz.func138, rfl, by kernel_rfl⟩
theorem once138 : loopsOnce (ifun Tryz.f138).body = true := by kernel_rfl
theorem z90.loopsT (hI : InlOK Tryz.prog z90.C fun R => z90.C.inlK 6) : LoopsOK z90.C (fun R => z90.C.inlK 6) 138 0 (ifun Tryz.f138).body := by
  intro id b hm st p hp
  obtain rfl := loopsOnce_mem once138 hm
  unfold z90.C at hp
  simp only at hp
  try split at hp
  all_goals first
    | (simp at hp; done)
    | (exfalso; omega)
    | exact z90.l0_sound hI st p hp
theorem z90.inlF : InlF Tryz.prog z90.C where
  prim g h hp := by simp [z90.C] at hp
  fn g fn h := by simp [z90.C] at h
  loops g fn h := by simp [z90.C] at h
theorem z90.ctx : CtxOK Tryz.prog z90.C where
  tab := tab_ok
  mixed := mixed_ok
  call g vs p _ _ h := by
    unfold z90.C at h; simp only at h; split at h
    · exact z87.sound vs p h
    · exact z88.sound vs p h
    · simp at h
  clone g e _ h := by
    simp [z90.C] at h
theorem z90.hdec : ∀ v r, z90.dec v = some r → relax3 v = z90.enc r ∧ imm3 (z90.enc r) = true := by
  intro v r h
  unfold z90.dec at h
  split at h
  case h_2 => simp at h
  simp only [Option.some.injEq] at h
  subst h
  exact ⟨rfl, rfl⟩
theorem z90.pk {vs : List V} {p : Pack} (h : z90.pack vs = some p) : ∃ (a0 : Int) (a1 : Int) (a2 : Int) (a3 : Int) (a4 : Int), vs = [(.agg [(.int .i64 a0), (.int .i64 a1), (.int .i64 a2)]), (.int .i64 a3), (.int .i64 a4)] ∧ p = ⟨(List (List V)) × Int, z90.F a0 a1 a2 a3 a4, z90.enc⟩ := by
  unfold z90.pack at h
  split at h
  case h_2 => simp at h
  simp only [Option.some.injEq] at h
  exact ⟨_, _, _, _, _, rfl, h.symm⟩
theorem z90.sound (vs : List V) (p : Pack) (h : z90.pack vs = some p) : SoundC Tryz.prog 138 vs p := by
  obtain ⟨a0, a1, a2, a3, a4, rfl, rfl⟩ := z90.pk h
  exact top_sound z90.ctx z90.inlF fun138 (z90.loopsT (inl_ok z90.ctx z90.inlF 6)) rfl (z90.link a0 a1 a2 a3 a4) z90.hdec
theorem fun48 : FunOK Tryz.prog 48 Tryz.f48 (ifun Tryz.f48).body := ⟨Tryz.func48, rfl, by kernel_rfl⟩
theorem once48 : loopsOnce (ifun Tryz.f48).body = true := by kernel_rfl
theorem z91.loopsT (hI : InlOK Tryz.prog z91.C fun R => z91.C.inlK 6) : LoopsOK z91.C (fun R => z91.C.inlK 6) 48 0 (ifun Tryz.f48).body := by
  intro id b hm st p hp
  obtain rfl := loopsOnce_mem once48 hm
  simp [z91.C] at hp
theorem z91.inlF : InlF Tryz.prog z91.C where
  prim g h hp := by simp [z91.C] at hp
  fn g fn h := by simp [z91.C] at h
  loops g fn h := by simp [z91.C] at h
theorem z91.ctx : CtxOK Tryz.prog z91.C where
  tab := tab_ok
  mixed := mixed_ok
  call g vs p _ _ h := by
    unfold z91.C at h; simp only at h; split at h
    · exact z89.sound vs p h
    · exact z90.sound vs p h
    · simp at h
  clone g e _ h := by
    simp [z91.C] at h
theorem z91.hdec : ∀ v r, z91.dec v = some r → relax3 v = z91.enc r ∧ imm3 (z91.enc r) = true := by
  intro v r h
  unfold z91.dec at h
  split at h
  case h_2 => simp at h
  simp only [Option.some.injEq] at h
  subst h
  exact ⟨rfl, rfl⟩
theorem z91.pk {vs : List V} {p : Pack} (h : z91.pack vs = some p) : ∃ (a0 : List UInt8) (a1 : List UInt8) (a2 : Int) (a3 : Int) (a4 : Int) (a5 : Int) (a6 : Int) (a7 : Int) (a8 : Int) (a9 : Int), vs = [(.agg [(.str a0), (.str a1), (.int .i64 a2), (.int .i64 a3), (.int .i64 a4), (.int .i64 a5), (.int .i64 a6), (.int .i64 a7), (.int .i64 a8), (.int .i64 a9)])] ∧ p = ⟨(List (List V)) × Int, z91.F a0 a1 a2 a3 a4 a5 a6 a7 a8 a9, z91.enc⟩ := by
  unfold z91.pack at h
  split at h
  case h_2 => simp at h
  simp only [Option.some.injEq] at h
  exact ⟨_, _, _, _, _, _, _, _, _, _, rfl, h.symm⟩
theorem z91.sound (vs : List V) (p : Pack) (h : z91.pack vs = some p) : SoundC Tryz.prog 48 vs p := by
  obtain ⟨a0, a1, a2, a3, a4, a5, a6, a7, a8, a9, rfl, rfl⟩ := z91.pk h
  exact top_sound z91.ctx z91.inlF fun48 (z91.loopsT (inl_ok z91.ctx z91.inlF 6)) rfl (z91.link a0 a1 a2 a3 a4 a5 a6 a7 a8 a9) z91.hdec
def z92.l0un : List Leaf → Option (Int × (List (List V)) × Int × Int × Int)
  | [.i _, .lr _, .i _, .i t1004, .lr _, .lr s1006, .i s1007, .i s1008, .i s1009] => some (t1004, s1006, s1007, s1008, s1009)
  | _ => none
def z92.l0uo0 : List Leaf → Option (Int × (List (List V)) × Int × Int × Int)
  | [.i _, .lr _, .i _, .i y0, .lr _, .lr y1, .i y2, .i y3, .i y4] => some (y0, y1, y2, y3, y4)
  | _ => none
def z92.l0uo (p : X × Env × Store) : Option (Int × (List (List V)) × Int × Int × Int) := (matchSt z92.l0so0 p.2).bind z92.l0uo0
def z92.l0enc (t1001 : Int) (t1002 : List (List V)) (t1003 : Int) (s1005 : List (List V)) (x' : (Int × (List (List V)) × Int × Int × Int)) : Env × Store := fillSt z92.l0sh [.i t1001, .lr t1002, .i t1003, .i x'.1, .lr s1005, .lr x'.2.1, .i x'.2.2.1, .i x'.2.2.2.1, .i x'.2.2.2.2]
theorem z92.l0pk {ls : List Leaf} {p : LPack} (h : z92.l0pack ls = some p) : ∃ t1001 t1002 t1003 t1004 s1005 s1006 s1007 s1008 s1009, ls = [.i t1001, .lr t1002, .i t1003, .i t1004, .lr s1005, .lr s1006, .i s1007, .i s1008, .i s1009] ∧ p = .one _ (z92.l0 t1002 t1003 (t1004, s1006, s1007, s1008, s1009)) (z92.l0out0 t1001 t1002 t1003 t1004 s1005 s1006 s1007 s1008 s1009) := by
  unfold z92.l0pack at h
  split at h
  case h_2 => simp at h
  simp only [Option.some.injEq] at h
  exact ⟨_, _, _, _, _, _, _, _, _, rfl, h.symm⟩
theorem z92.l0_sound (hI : InlOK Tryz.prog z92.C fun R => z92.C.inlK 6) (st : Env × Store) (p : LPack) (h : (matchSt z92.l0sh st).bind z92.l0pack = some p) : p.sound (z92.C.loopG (z92.C.inlK 6) 49 0 0 (loopAt 0 (ifun Tryz.f49).body) st.2.length) st := by
  obtain ⟨ls, h1, h2⟩ := Option.bind_eq_some_iff.1 h
  have h1 := matchSt_fill h1
  obtain ⟨t1001, t1002, t1003, t1004, s1005, s1006, s1007, s1008, s1009, rfl, rfl⟩ := z92.l0pk h2
  have hst : st = z92.l0enc t1001 t1002 t1003 s1005 (t1004, s1006, s1007, s1008, s1009) := h1.symm.trans (by kernel_rfl)
  have hn : (z92.l0enc t1001 t1002 t1003 s1005 (t1004, s1006, s1007, s1008, s1009)).2.length = 4 := by kernel_rfl
  rw [hst, hn]
  intro o ho
  have key := lfp_sound (I := fun R => z92.C.inlK 6) hI (σ := (Int × (List (List V)) × Int × Int × Int)) (τ := (Int × (List (List V)) × Int × Int × Int)) (fid := 49) (id := 0) (base := 0) (n := 4) (b := (loopAt 0 (ifun Tryz.f49).body)) (F := fun R rec done x => z92.l0P t1002 t1003 rec done x) (enc := z92.l0enc t1001 t1002 t1003 s1005) (dec := fun st => (matchSt z92.l0sh st).bind z92.l0un) (out := z92.l0out0 t1001 t1002 t1003 t1004 s1005 s1006 s1007 s1008 s1009) (decO := z92.l0uo)
    (fun x => by kernel_rfl) (fun o => by kernel_rfl) (fun R k d x' => z92.l0_link R k d t1001 t1002 t1003 (x'.1) s1005 (x'.2.1) (x'.2.2.1) (x'.2.2.2.1) (x'.2.2.2.2)) (x := (t1004, s1006, s1007, s1008, s1009)) (o := o) ho
  exact key
theorem fun49 : FunOK Tryz.prog 49 Tryz.f49 (ifun Tryz.f49).body := ⟨Tryz.func49, rfl, by kernel_rfl⟩
theorem once49 : loopsOnce (ifun Tryz.f49).body = true := by kernel_rfl
theorem z92.loopsT (hI : InlOK Tryz.prog z92.C fun R => z92.C.inlK 6) : LoopsOK z92.C (fun R => z92.C.inlK 6) 49 0 (ifun Tryz.f49).body := by
  intro id b hm st p hp
  obtain rfl := loopsOnce_mem once49 hm
  unfold z92.C at hp
  simp only at hp
  try split at hp
  all_goals first
    | (simp at hp; done)
    | (exfalso; omega)
    | exact z92.l0_sound hI st p hp
theorem z92.inlF : InlF Tryz.prog z92.C where
  prim g h hp := by simp [z92.C] at hp
  fn g fn h := by simp [z92.C] at h
  loops g fn h := by simp [z92.C] at h
theorem z92.ctx : CtxOK Tryz.prog z92.C where
  tab := tab_ok
  mixed := mixed_ok
  call g vs p _ _ h := by
    unfold z92.C at h; simp only at h; split at h
    · exact z91.sound vs p h
    · simp at h
  clone g e _ h := by
    simp [z92.C] at h
theorem z92.hdec : ∀ v r, z92.dec v = some r → relax3 v = z92.enc r ∧ imm3 (z92.enc r) = true := by
  intro v r h
  unfold z92.dec at h
  split at h
  case h_2 => simp at h
  simp only [Option.some.injEq] at h
  subst h
  exact ⟨rfl, rfl⟩
theorem z92.pk {vs : List V} {p : Pack} (h : z92.pack vs = some p) : ∃ (a0 : List UInt8) (a1 : List UInt8) (a2 : Int) (a3 : Int) (a4 : Int) (a5 : Int) (a6 : Int) (a7 : Int) (a8 : Int) (a9 : Int), vs = [(.agg [(.str a0), (.str a1), (.int .i64 a2), (.int .i64 a3), (.int .i64 a4), (.int .i64 a5), (.int .i64 a6), (.int .i64 a7), (.int .i64 a8), (.int .i64 a9)])] ∧ p = ⟨(List (List V)) × Int, z92.F a0 a1 a2 a3 a4 a5 a6 a7 a8 a9, z92.enc⟩ := by
  unfold z92.pack at h
  split at h
  case h_2 => simp at h
  simp only [Option.some.injEq] at h
  exact ⟨_, _, _, _, _, _, _, _, _, _, rfl, h.symm⟩
theorem z92.sound (vs : List V) (p : Pack) (h : z92.pack vs = some p) : SoundC Tryz.prog 49 vs p := by
  obtain ⟨a0, a1, a2, a3, a4, a5, a6, a7, a8, a9, rfl, rfl⟩ := z92.pk h
  exact top_sound z92.ctx z92.inlF fun49 (z92.loopsT (inl_ok z92.ctx z92.inlF 6)) rfl (z92.link a0 a1 a2 a3 a4 a5 a6 a7 a8 a9) z92.hdec
def z93.l0un : List Leaf → Option Int
  | [.lr _, .lr _, .b _, .i _, .i t1005] => some t1005
  | _ => none
def z93.l0uo0 : List Leaf → Option (Int)
  | [.lr _, .lr _, .b _, .i _, .i y0] => some y0
  | _ => none
def z93.l0uo1 : List Leaf → Option (Bool)
  | [.b y0] => some y0
  | _ => none
def z93.l0uo (p : X × Env × Store) : Option ((Int) ⊕ (Bool)) := match p with
  | ((.exit 0), st) => ((matchSt z93.l0so0 st).bind z93.l0uo0).map .inl
  | (.ret, st) => ((matchSt z93.l0so1 st).bind z93.l0uo1).map .inr
  | _ => none
def z93.l0enc (s1001 : List (List V)) (s1002 : List (List V)) (t1003 : Bool) (t1004 : Int) (x' : Int) : Env × Store := fillSt z93.l0sh [.lr s1001, .lr s1002, .b t1003, .i t1004, .i x']
theorem z93.l0pk {ls : List Leaf} {p : LPack} (h : z93.l0pack ls = some p) : ∃ s1001 s1002 t1003 t1004 t1005, ls = [.lr s1001, .lr s1002, .b t1003, .i t1004, .i t1005] ∧ p = .two _ _ (z93.l0 s1001 s1002 t1004 t1005) (z93.l0out0 s1001 s1002 t1003 t1004 t1005) (z93.l0out1 s1001 s1002 t1003 t1004 t1005) := by
  unfold z93.l0pack at h
  split at h
  case h_2 => simp at h
  simp only [Option.some.injEq] at h
  exact ⟨_, _, _, _, _, rfl, h.symm⟩
theorem z93.l0_sound (hI : InlOK Tryz.prog z93.C fun R => z93.C.inlK 6) (st : Env × Store) (p : LPack) (h : (matchSt z93.l0sh st).bind z93.l0pack = some p) : p.sound (z93.C.loopG (z93.C.inlK 6) 51 0 0 (loopAt 0 (ifun Tryz.f51).body) st.2.length) st := by
  obtain ⟨ls, h1, h2⟩ := Option.bind_eq_some_iff.1 h
  have h1 := matchSt_fill h1
  obtain ⟨s1001, s1002, t1003, t1004, t1005, rfl, rfl⟩ := z93.l0pk h2
  have hst : st = z93.l0enc s1001 s1002 t1003 t1004 t1005 := h1.symm.trans (by kernel_rfl)
  have hn : (z93.l0enc s1001 s1002 t1003 t1004 t1005).2.length = 0 := by kernel_rfl
  rw [hst, hn]
  intro o ho
  have key := lfp_sound (I := fun R => z93.C.inlK 6) hI (σ := Int) (τ := ((Int) ⊕ (Bool))) (fid := 51) (id := 0) (base := 0) (n := 0) (b := (loopAt 0 (ifun Tryz.f51).body)) (F := fun R rec done x => z93.l0P s1001 s1002 t1004 rec done x) (enc := z93.l0enc s1001 s1002 t1003 t1004) (dec := fun st => (matchSt z93.l0sh st).bind z93.l0un) (out := fun o => match o with | .inl o => z93.l0out0 s1001 s1002 t1003 t1004 t1005 o | .inr o => z93.l0out1 s1001 s1002 t1003 t1004 t1005 o) (decO := z93.l0uo)
    (fun x => by kernel_rfl) (fun o => by cases o <;> kernel_rfl) (fun R k d x' => (z93.l0_link R k d s1001 s1002 t1003 t1004 (x')).trans (congrArg (fun dn => z93.l0P s1001 s1002 t1004 (fun x' => k (z93.l0enc s1001 s1002 t1003 t1004 x')) dn x') (funext fun o => by cases o <;> rfl))) (x := t1005) (o := o) ho
  cases o <;> exact key
theorem fun51 : FunOK Tryz.prog 51 Tryz.f51 (ifun Tryz.f51).body := ⟨Tryz.func51, rfl, by kernel_rfl⟩
theorem once51 : loopsOnce (ifun Tryz.f51).body = true := by kernel_rfl
theorem z93.loopsT (hI : InlOK Tryz.prog z93.C fun R => z93.C.inlK 6) : LoopsOK z93.C (fun R => z93.C.inlK 6) 51 0 (ifun Tryz.f51).body := by
  intro id b hm st p hp
  obtain rfl := loopsOnce_mem once51 hm
  unfold z93.C at hp
  simp only at hp
  try split at hp
  all_goals first
    | (simp at hp; done)
    | (exfalso; omega)
    | exact z93.l0_sound hI st p hp
theorem z93.inlF : InlF Tryz.prog z93.C where
  prim g h hp := by simp [z93.C] at hp
  fn g fn h := by simp [z93.C] at h
  loops g fn h := by simp [z93.C] at h
theorem z93.ctx : CtxOK Tryz.prog z93.C where
  tab := tab_ok
  mixed := mixed_ok
  call g vs p _ _ h := by
    simp [z93.C] at h
  clone g e _ h := by
    simp [z93.C] at h
theorem z93.hdec : ∀ v r, z93.dec v = some r → relax3 v = z93.enc r ∧ imm3 (z93.enc r) = true := by
  intro v r h
  unfold z93.dec at h
  split at h
  case h_2 => simp at h
  simp only [Option.some.injEq] at h
  subst h
  exact ⟨rfl, rfl⟩
theorem z93.pk {vs : List V} {p : Pack} (h : z93.pack vs = some p) : ∃ (h0 : Bool) (h1 : Bool) (a0 : List (List V)) (a1 : List (List V)), vs = [(.recs h0 3 a0), (.recs h1 3 a1)] ∧ p = ⟨Bool, z93.F a0 a1, z93.enc⟩ := by
  unfold z93.pack at h
  split at h
  case h_2 => simp at h
  simp only [Option.some.injEq] at h
  exact ⟨_, _, _, _, rfl, h.symm⟩
theorem z93.sound (vs : List V) (p : Pack) (h : z93.pack vs = some p) : SoundC Tryz.prog 51 vs p := by
  obtain ⟨h0, h1, a0, a1, rfl, rfl⟩ := z93.pk h
  exact top_sound z93.ctx z93.inlF fun51 (z93.loopsT (inl_ok z93.ctx z93.inlF 6)) rfl (z93.link a0 a1) z93.hdec
def z94.l0un : List Leaf → Option Int
  | [.i _, .i _, .li _, .i _, .i t1005] => some t1005
  | _ => none
def z94.l0uo0 : List Leaf → Option (Int)
  | [.i _, .i _, .li _, .i _, .i y0] => some y0
  | _ => none
def z94.l0uo1 : List Leaf → Option (Int)
  | [.i y0] => some y0
  | _ => none
def z94.l0uo (p : X × Env × Store) : Option ((Int) ⊕ (Int)) := match p with
  | ((.exit 0), st) => ((matchSt z94.l0so0 st).bind z94.l0uo0).map .inl
  | (.ret, st) => ((matchSt z94.l0so1 st).bind z94.l0uo1).map .inr
  | _ => none
def z94.l0enc (t1001 : Int) (zero1002 : Int) (t1003 : List Int) (t1004 : Int) (x' : Int) : Env × Store := fillSt z94.l0sh [.i t1001, .i zero1002, .li t1003, .i t1004, .i x']
theorem z94.l0pk {ls : List Leaf} {p : LPack} (h : z94.l0pack ls = some p) : ∃ t1001 zero1002 t1003 t1004 t1005, ls = [.i t1001, .i zero1002, .li t1003, .i t1004, .i t1005] ∧ p = .two _ _ (z94.l0 zero1002 t1003 t1004 t1005) (z94.l0out0 t1001 zero1002 t1003 t1004 t1005) (z94.l0out1 t1001 zero1002 t1003 t1004 t1005) := by
  unfold z94.l0pack at h
  split at h
  case h_2 => simp at h
  simp only [Option.some.injEq] at h
  exact ⟨_, _, _, _, _, rfl, h.symm⟩
theorem z94.l0_sound (hI : InlOK Tryz.prog z94.C fun R => z94.C.inlK 6) (st : Env × Store) (p : LPack) (h : (matchSt z94.l0sh st).bind z94.l0pack = some p) : p.sound (z94.C.loopG (z94.C.inlK 6) 145 0 0 (loopAt 0 (ifun Tryz.f145).body) st.2.length) st := by
  obtain ⟨ls, h1, h2⟩ := Option.bind_eq_some_iff.1 h
  have h1 := matchSt_fill h1
  obtain ⟨t1001, zero1002, t1003, t1004, t1005, rfl, rfl⟩ := z94.l0pk h2
  have hst : st = z94.l0enc t1001 zero1002 t1003 t1004 t1005 := h1.symm.trans (by kernel_rfl)
  have hn : (z94.l0enc t1001 zero1002 t1003 t1004 t1005).2.length = 0 := by kernel_rfl
  rw [hst, hn]
  intro o ho
  have key := lfp_sound (I := fun R => z94.C.inlK 6) hI (σ := Int) (τ := ((Int) ⊕ (Int))) (fid := 145) (id := 0) (base := 0) (n := 0) (b := (loopAt 0 (ifun Tryz.f145).body)) (F := fun R rec done x => z94.l0P zero1002 t1003 t1004 rec done x) (enc := z94.l0enc t1001 zero1002 t1003 t1004) (dec := fun st => (matchSt z94.l0sh st).bind z94.l0un) (out := fun o => match o with | .inl o => z94.l0out0 t1001 zero1002 t1003 t1004 t1005 o | .inr o => z94.l0out1 t1001 zero1002 t1003 t1004 t1005 o) (decO := z94.l0uo)
    (fun x => by kernel_rfl) (fun o => by cases o <;> kernel_rfl) (fun R k d x' => (z94.l0_link R k d t1001 zero1002 t1003 t1004 (x')).trans (congrArg (fun dn => z94.l0P zero1002 t1003 t1004 (fun x' => k (z94.l0enc t1001 zero1002 t1003 t1004 x')) dn x') (funext fun o => by cases o <;> rfl))) (x := t1005) (o := o) ho
  cases o <;> exact key
theorem fun145 : FunOK Tryz.prog 145 Tryz.f145 (ifun Tryz.f145).body := ⟨Tryz.func145, rfl, by kernel_rfl⟩
theorem once145 : loopsOnce (ifun Tryz.f145).body = true := by kernel_rfl
theorem z94.loopsT (hI : InlOK Tryz.prog z94.C fun R => z94.C.inlK 6) : LoopsOK z94.C (fun R => z94.C.inlK 6) 145 0 (ifun Tryz.f145).body := by
  intro id b hm st p hp
  obtain rfl := loopsOnce_mem once145 hm
  unfold z94.C at hp
  simp only at hp
  try split at hp
  all_goals first
    | (simp at hp; done)
    | (exfalso; omega)
    | exact z94.l0_sound hI st p hp
theorem z94.inlF : InlF Tryz.prog z94.C where
  prim g h hp := by simp [z94.C] at hp
  fn g fn h := by simp [z94.C] at h
  loops g fn h := by simp [z94.C] at h
theorem z94.ctx : CtxOK Tryz.prog z94.C where
  tab := tab_ok
  mixed := mixed_ok
  call g vs p _ _ h := by
    simp [z94.C] at h
  clone g e _ h := by
    simp [z94.C] at h
theorem z94.hdec : ∀ v r, z94.dec v = some r → relax3 v = z94.enc r ∧ imm3 (z94.enc r) = true := by
  intro v r h
  unfold z94.dec at h
  split at h
  case h_2 => simp at h
  simp only [Option.some.injEq] at h
  subst h
  exact ⟨rfl, rfl⟩
theorem z94.pk {vs : List V} {p : Pack} (h : z94.pack vs = some p) : ∃ (h0 : Bool) (a0 : List Int), vs = [(.ints h0 .i64 a0)] ∧ p = ⟨Int, z94.F a0, z94.enc⟩ := by
  unfold z94.pack at h
  split at h
  case h_2 => simp at h
  simp only [Option.some.injEq] at h
  exact ⟨_, _, rfl, h.symm⟩
theorem z94.sound (vs : List V) (p : Pack) (h : z94.pack vs = some p) : SoundC Tryz.prog 145 vs p := by
  obtain ⟨h0, a0, rfl, rfl⟩ := z94.pk h
  exact top_sound z94.ctx z94.inlF fun145 (z94.loopsT (inl_ok z94.ctx z94.inlF 6)) rfl (z94.link a0) z94.hdec
theorem fun57 : FunOK Tryz.prog 57 Tryz.f57 (ifun Tryz.f57).body := ⟨Tryz.func57, rfl, by kernel_rfl⟩
theorem once57 : loopsOnce (ifun Tryz.f57).body = true := by kernel_rfl
theorem z95.loopsT (hI : InlOK Tryz.prog z95.C fun R => z95.C.inlK 6) : LoopsOK z95.C (fun R => z95.C.inlK 6) 57 0 (ifun Tryz.f57).body := by
  intro id b hm st p hp
  obtain rfl := loopsOnce_mem once57 hm
  simp [z95.C] at hp
theorem z95.inlF : InlF Tryz.prog z95.C where
  prim g h hp := by simp [z95.C] at hp
  fn g fn h := by simp [z95.C] at h
  loops g fn h := by simp [z95.C] at h
theorem z95.ctx : CtxOK Tryz.prog z95.C where
  tab := tab_ok
  mixed := mixed_ok
  call g vs p _ _ h := by
    unfold z95.C at h; simp only at h; split at h
    · exact z27.sound vs p h
    · exact z94.sound vs p h
    · simp at h
  clone g e _ h := by
    simp [z95.C] at h
theorem z95.hdec : ∀ v r, z95.dec v = some r → relax3 v = z95.enc r ∧ imm3 (z95.enc r) = true := by
  intro v r h
  unfold z95.dec at h
  split at h
  case h_2 => simp at h
  simp only [Option.some.injEq] at h
  subst h
  exact ⟨rfl, rfl⟩
theorem z95.pk {vs : List V} {p : Pack} (h : z95.pack vs = some p) : ∃ (a0 : Int) (a1 : Int) (a2 : Int) (a3 : Int) (a4 : Int) (a5 : Int), vs = [(.agg [(.int .i64 a0), (.int .i64 a1), (.int .i64 a2)]), (.agg [(.int .i64 a3), (.int .i64 a4), (.int .i64 a5)])] ∧ p = ⟨Int, z95.F a0 a1 a2 a3 a4 a5, z95.enc⟩ := by
  unfold z95.pack at h
  split at h
  case h_2 => simp at h
  simp only [Option.some.injEq] at h
  exact ⟨_, _, _, _, _, _, rfl, h.symm⟩
theorem z95.sound (vs : List V) (p : Pack) (h : z95.pack vs = some p) : SoundC Tryz.prog 57 vs p := by
  obtain ⟨a0, a1, a2, a3, a4, a5, rfl, rfl⟩ := z95.pk h
  exact top_sound z95.ctx z95.inlF fun57 (z95.loopsT (inl_ok z95.ctx z95.inlF 6)) rfl (z95.link a0 a1 a2 a3 a4 a5) z95.hdec
def z96.l0un : List Leaf → Option Int
  | [.lr _, .i _, .i _, .i t1004, .s _, .s _, .i _, .i _, .i _, .i _, .i _, .i _, .i _, .i _, .i _, .i _, .i _] => some t1004
  | _ => none
def z96.l0uo0 : List Leaf → Option (Int)
  | [.lr _, .i _, .i _, .i y0, .s _, .s _, .i _, .i _, .i _, .i _, .i _, .i _, .i _, .i _, .i _, .i _, .i _] => some y0
  | _ => none
def z96.l0uo1 : List Leaf → Option (Int)
  | [.i y0, .s _, .s _, .i _, .i _, .i _, .i _, .i _, .i _, .i _, .i _, .i _, .i _, .i _] => some y0
  | _ => none
def z96.l0uo (p : X × Env × Store) : Option ((Int) ⊕ (Int)) := match p with
  | ((.exit 0), st) => ((matchSt z96.l0so0 st).bind z96.l0uo0).map .inl
  | (.ret, st) => ((matchSt z96.l0so1 st).bind z96.l0uo1).map .inr
  | _ => none
def z96.l0enc (s1001 : List (List V)) (t1002 : Int) (t1003 : Int) (s1005 : List UInt8) (s1006 : List UInt8) (s1007 : Int) (s1008 : Int) (s1009 : Int) (s1010 : Int) (s1011 : Int) (s1012 : Int) (s1013 : Int) (s1014 : Int) (s1015 : Int) (s1016 : Int) (s1017 : Int) (x' : Int) : Env × Store := fillSt z96.l0sh [.lr s1001, .i t1002, .i t1003, .i x', .s s1005, .s s1006, .i s1007, .i s1008, .i s1009, .i s1010, .i s1011, .i s1012, .i s1013, .i s1014, .i s1015, .i s1016, .i s1017]
theorem z96.l0pk {ls : List Leaf} {p : LPack} (h : z96.l0pack ls = some p) : ∃ s1001 t1002 t1003 t1004 s1005 s1006 s1007 s1008 s1009 s1010 s1011 s1012 s1013 s1014 s1015 s1016 s1017, ls = [.lr s1001, .i t1002, .i t1003, .i t1004, .s s1005, .s s1006, .i s1007, .i s1008, .i s1009, .i s1010, .i s1011, .i s1012, .i s1013, .i s1014, .i s1015, .i s1016, .i s1017] ∧ p = .two _ _ (z96.l0 s1001 t1003 s1015 s1016 s1017 t1004) (z96.l0out0 s1001 t1002 t1003 t1004 s1005 s1006 s1007 s1008 s1009 s1010 s1011 s1012 s1013 s1014 s1015 s1016 s1017) (z96.l0out1 s1001 t1002 t1003 t1004 s1005 s1006 s1007 s1008 s1009 s1010 s1011 s1012 s1013 s1014 s1015 s1016 s1017) := by
  unfold z96.l0pack at h
  split at h
  case h_2 => simp at h
  simp only [Option.some.injEq] at h
  exact ⟨_, _, _, _, _, _, _, _, _, _, _, _, _, _, _, _, _, rfl, h.symm⟩
theorem z96.l0_sound (hI : InlOK Tryz.prog z96.C fun R => z96.C.inlK 1) (st : Env × Store) (p : LPack) (h : (matchSt z96.l0sh st).bind z96.l0pack = some p) : p.sound (z96.C.loopG (z96.C.inlK 1) 143 0 2 (loopAt 0 (ifun Tryz.f143).body) st.2.length) st := by
  obtain ⟨ls, h1, h2⟩ := Option.bind_eq_some_iff.1 h
  have h1 := matchSt_fill h1
  obtain ⟨s1001, t1002, t1003, t1004, s1005, s1006, s1007, s1008, s1009, s1010, s1011, s1012, s1013, s1014, s1015, s1016, s1017, rfl, rfl⟩ := z96.l0pk h2
  have hst : st = z96.l0enc s1001 t1002 t1003 s1005 s1006 s1007 s1008 s1009 s1010 s1011 s1012 s1013 s1014 s1015 s1016 s1017 t1004 := h1.symm.trans (by kernel_rfl)
  have hn : (z96.l0enc s1001 t1002 t1003 s1005 s1006 s1007 s1008 s1009 s1010 s1011 s1012 s1013 s1014 s1015 s1016 s1017 t1004).2.length = 2 := by kernel_rfl
  rw [hst, hn]
  intro o ho
  have key := lfp_sound (I := fun R => z96.C.inlK 1) hI (σ := Int) (τ := ((Int) ⊕ (Int))) (fid := 143) (id := 0) (base := 2) (n := 2) (b := (loopAt 0 (ifun Tryz.f143).body)) (F := fun R rec done x => z96.l0P s1001 t1003 s1015 s1016 s1017 rec done x) (enc := z96.l0enc s1001 t1002 t1003 s1005 s1006 s1007 s1008 s1009 s1010 s1011 s1012 s1013 s1014 s1015 s1016 s1017) (dec := fun st => (matchSt z96.l0sh st).bind z96.l0un) (out := fun o => match o with | .inl o => z96.l0out0 s1001 t1002 t1003 t1004 s1005 s1006 s1007 s1008 s1009 s1010 s1011 s1012 s1013 s1014 s1015 s1016 s1017 o | .inr o => z96.l0out1 s1001 t1002 t1003 t1004 s1005 s1006 s1007 s1008 s1009 s1010 s1011 s1012 s1013 s1014 s1015 s1016 s1017 o) (decO := z96.l0uo)
    (fun x => by kernel_rfl) (fun o => by cases o <;> kernel_rfl) (fun R k d x' => (z96.l0_link R k d s1001 t1002 t1003 (x') s1005 s1006 s1007 s1008 s1009 s1010 s1011 s1012 s1013 s1014 s1015 s1016 s1017).trans (congrArg (fun dn => z96.l0P s1001 t1003 s1015 s1016 s1017 (fun x' => k (z96.l0enc s1001 t1002 t1003 s1005 s1006 s1007 s1008 s1009 s1010 s1011 s1012 s1013 s1014 s1015 s1016 s1017 x')) dn x') (funext fun o => by cases o <;> rfl))) (x := t1004) (o := o) ho
  cases o <;> exact key
theorem fun55 : FunOK Tryz.prog 55 Tryz.f55 (ifun Tryz.f55).body := ⟨Tryz.func55, rfl, by kernel_rfl⟩
theorem once55 : loopsOnce (ifun Tryz.f55).body = true := by kernel_rfl
theorem fun143 : FunOK Tryz.prog 143 Tryz.f143 (ifun Tryz.f143).body := ⟨Tryz.func143, rfl, by kernel_rfl⟩
theorem once143 : loopsOnce (ifun Tryz.f143).body = true := by kernel_rfl
theorem fun144 : FunOK Tryz.prog 144 Tryz.f144 (ifun Tryz.f144).body := ⟨Tryz.func144, rfl, by kernel_rfl⟩
theorem once144 : loopsOnce (ifun Tryz.f144).body = true := by kernel_rfl
theorem z96.loopsT (hI : InlOK Tryz.prog z96.C fun R => z96.C.inlK 6) : LoopsOK z96.C (fun R => z96.C.inlK 6) 55 0 (ifun Tryz.f55).body := by
  intro id b hm st p hp
  obtain rfl := loopsOnce_mem once55 hm
  unfold z96.C at hp
  simp only at hp
  try split at hp
  all_goals first
    | (simp at hp; done)
    | (exfalso; omega)
theorem z96.loops143 (hI : InlOK Tryz.prog z96.C fun R => z96.C.inlK 1) (base : Nat) : LoopsOK z96.C (fun R => z96.C.inlK 1) 143 base (ifun Tryz.f143).body := by
  intro id b hm st p hp
  obtain rfl := loopsOnce_mem once143 hm
  unfold z96.C at hp
  simp only at hp
  try split at hp
  all_goals first
    | (simp at hp; done)
    | (exfalso; omega)
    | exact z96.l0_sound hI st p hp
theorem z96.loops144 (hI : InlOK Tryz.prog z96.C fun R => z96.C.inlK 0) (base : Nat) : LoopsOK z96.C (fun R => z96.C.inlK 0) 144 base (ifun Tryz.f144).body := by
  intro id b hm st p hp
  obtain rfl := loopsOnce_mem once144 hm
  unfold z96.C at hp
  simp only at hp
  try split at hp
  all_goals first
    | (simp at hp; done)
    | (exfalso; omega)
theorem z96.inlF : InlF Tryz.prog z96.C where
  prim g h hp := by simp [z96.C] at hp
  fn g fn h := by
    unfold z96.C at h; simp only at h; split at h
    · simp only [Option.some.injEq] at h; subst h; exact ⟨_, _, fun143, rfl⟩
    · simp only [Option.some.injEq] at h; subst h; exact ⟨_, _, fun144, rfl⟩
    · simp at h
  loops g fn h := by
    unfold z96.C at h; simp only at h; split at h
    · simp only [Option.some.injEq] at h; subst h; exact fun hI base => z96.loops143 hI base
    · simp only [Option.some.injEq] at h; subst h; exact fun hI base => z96.loops144 hI base
    · simp at h
theorem z96.ctx : CtxOK Tryz.prog z96.C where
  tab := tab_ok
  mixed := mixed_ok
  call g vs p _ _ h := by
    unfold z96.C at h; simp only at h; split at h
    · exact z91.sound vs p h
    · exact z87.sound vs p h
    · exact z95.sound vs p h
    · simp at h
  clone g e _ h := by
    simp [z96.C] at h
theorem z96.hdec : ∀ v r, z96.dec v = some r → relax3 v = z96.enc r ∧ imm3 (z96.enc r) = true := by
  intro v r h
  unfold z96.dec at h
  split at h
  case h_2 => simp at h
  simp only [Option.some.injEq] at h
  subst h
  exact ⟨rfl, rfl⟩
theorem z96.pk {vs : List V} {p : Pack} (h : z96.pack vs = some p) : ∃ (a0 : List UInt8) (a1 : List UInt8) (a2 : Int) (a3 : Int) (a4 : Int) (a5 : Int) (a6 : Int) (a7 : Int) (a8 : Int) (a9 : Int) (a10 : Int) (a11 : Int) (a12 : Int), vs = [(.agg [(.str a0), (.str a1), (.int .i64 a2), (.int .i64 a3), (.int .i64 a4), (.int .i64 a5), (.int .i64 a6), (.int .i64 a7), (.int .i64 a8), (.int .i64 a9)]), (.agg [(.int .i64 a10), (.int .i64 a11), (.int .i64 a12)])] ∧ p = ⟨Int × Int, z96.F a0 a1 a2 a3 a4 a5 a6 a7 a8 a9 a10 a11 a12, z96.enc⟩ := by
  unfold z96.pack at h
  split at h
  case h_2 => simp at h
  simp only [Option.some.injEq] at h
  exact ⟨_, _, _, _, _, _, _, _, _, _, _, _, _, rfl, h.symm⟩
theorem z96.sound (vs : List V) (p : Pack) (h : z96.pack vs = some p) : SoundC Tryz.prog 55 vs p := by
  obtain ⟨a0, a1, a2, a3, a4, a5, a6, a7, a8, a9, a10, a11, a12, rfl, rfl⟩ := z96.pk h
  exact top_sound z96.ctx z96.inlF fun55 (z96.loopsT (inl_ok z96.ctx z96.inlF 6)) rfl (z96.link a0 a1 a2 a3 a4 a5 a6 a7 a8 a9 a10 a11 a12) z96.hdec
theorem fun53 : FunOK Tryz.prog 53 Tryz.f53 (ifun Tryz.f53).body := ⟨Tryz.func53, rfl, by kernel_rfl⟩
theorem once53 : loopsOnce (ifun Tryz.f53).body = true := by kernel_rfl
theorem z97.loopsT (hI : InlOK Tryz.prog z97.C fun R => z97.C.inlK 6) : LoopsOK z97.C (fun R => z97.C.inlK 6) 53 0 (ifun Tryz.f53).body := by
  intro id b hm st p hp
  obtain rfl := loopsOnce_mem once53 hm
  simp [z97.C] at hp
theorem z97.inlF : InlF Tryz.prog z97.C where
  prim g h hp := by simp [z97.C] at hp
  fn g fn h := by simp [z97.C] at h
  loops g fn h := by simp [z97.C] at h
theorem z97.ctx : CtxOK Tryz.prog z97.C where
  tab := tab_ok
  mixed := mixed_ok
  call g vs p _ _ h := by
    unfold z97.C at h; simp only at h; split at h
    · exact z91.sound vs p h
    · exact z96.sound vs p h
    · exact z92.sound vs p h
    · exact z93.sound vs p h
    · simp at h
  clone g e _ h := by
    simp [z97.C] at h
theorem z97.hdec : ∀ v r, z97.dec v = some r → relax3 v = z97.enc r ∧ imm3 (z97.enc r) = true := by
  intro v r h
  unfold z97.dec at h
  split at h
  case h_2 => simp at h
  simp only [Option.some.injEq] at h
  subst h
  exact ⟨rfl, rfl⟩
theorem z97.pk {vs : List V} {p : Pack} (h : z97.pack vs = some p) : vs = [] ∧ p = ⟨Bool, z97.F, z97.enc⟩ := by
  unfold z97.pack at h
  split at h
  case h_2 => simp at h
  simp only [Option.some.injEq] at h
  exact ⟨rfl, h.symm⟩
theorem z97.sound (vs : List V) (p : Pack) (h : z97.pack vs = some p) : SoundC Tryz.prog 53 vs p := by
  obtain ⟨rfl, rfl⟩ := z97.pk h
  exact top_sound z97.ctx z97.inlF fun53 (z97.loopsT (inl_ok z97.ctx z97.inlF 6)) rfl z97.link z97.hdec
def z98.l0un : List Leaf → Option Int
  | [.b _, .lr _, .lr _, .lr _, .i _, .i t1006, .s _, .s _, .i _, .i _, .i _, .i _, .i _, .i _, .i _, .i _, .s _, .s _, .i _, .i _, .i _, .i _, .i _, .i _, .i _, .i _] => some t1006
  | _ => none
def z98.l0uo0 : List Leaf → Option (Int)
  | [.b _, .lr _, .lr _, .lr _, .i _, .i y0, .s _, .s _, .i _, .i _, .i _, .i _, .i _, .i _, .i _, .i _, .s _, .s _, .i _, .i _, .i _, .i _, .i _, .i _, .i _, .i _] => some y0
  | _ => none
def z98.l0uo1 : List Leaf → Option (Bool)
  | [.b y0, .s _, .s _, .i _, .i _, .i _, .i _, .i _, .i _, .i _, .i _, .s _, .s _, .i _, .i _, .i _, .i _, .i _, .i _, .i _, .i _] => some y0
  | _ => none
def z98.l0uo (p : X × Env × Store) : Option ((Int) ⊕ (Bool)) := match p with
  | ((.exit 0), st) => ((matchSt z98.l0so0 st).bind z98.l0uo0).map .inl
  | (.ret, st) => ((matchSt z98.l0so1 st).bind z98.l0uo1).map .inr
  | _ => none
def z98.l0enc (t1001 : Bool) (l1002 : List (List V)) (m1003 : List (List V)) (k1004 : List (List V)) (t1005 : Int) (s1007 : List UInt8) (s1008 : List UInt8) (s1009 : Int) (s1010 : Int) (s1011 : Int) (s1012 : Int) (s1013 : Int) (s1014 : Int) (s1015 : Int) (s1016 : Int) (s1017 : List UInt8) (s1018 : List UInt8) (s1019 : Int) (s1020 : Int) (s1021 : Int) (s1022 : Int) (s1023 : Int) (s1024 : Int) (s1025 : Int) (s1026 : Int) (x' : Int) : Env × Store := fillSt z98.l0sh [.b t1001, .lr l1002, .lr m1003, .lr k1004, .i t1005, .i x', .s s1007, .s s1008, .i s1009, .i s1010, .i s1011, .i s1012, .i s1013, .i s1014, .i s1015, .i s1016, .s s1017, .s s1018, .i s1019, .i s1020, .i s1021, .i s1022, .i s1023, .i s1024, .i s1025, .i s1026]
theorem z98.l0pk {ls : List Leaf} {p : LPack} (h : z98.l0pack ls = some p) : ∃ t1001 l1002 m1003 k1004 t1005 t1006 s1007 s1008 s1009 s1010 s1011 s1012 s1013 s1014 s1015 s1016 s1017 s1018 s1019 s1020 s1021 s1022 s1023 s1024 s1025 s1026, ls = [.b t1001, .lr l1002, .lr m1003, .lr k1004, .i t1005, .i t1006, .s s1007, .s s1008, .i s1009, .i s1010, .i s1011, .i s1012, .i s1013, .i s1014, .i s1015, .i s1016, .s s1017, .s s1018, .i s1019, .i s1020, .i s1021, .i s1022, .i s1023, .i s1024, .i s1025, .i s1026] ∧ p = .two _ _ (z98.l0 l1002 m1003 t1005 s1015 t1006) (z98.l0out0 t1001 l1002 m1003 k1004 t1005 t1006 s1007 s1008 s1009 s1010 s1011 s1012 s1013 s1014 s1015 s1016 s1017 s1018 s1019 s1020 s1021 s1022 s1023 s1024 s1025 s1026) (z98.l0out1 t1001 l1002 m1003 k1004 t1005 t1006 s1007 s1008 s1009 s1010 s1011 s1012 s1013 s1014 s1015 s1016 s1017 s1018 s1019 s1020 s1021 s1022 s1023 s1024 s1025 s1026) := by
  unfold z98.l0pack at h
  split at h
  case h_2 => simp at h
  simp only [Option.some.injEq] at h
  exact ⟨_, _, _, _, _, _, _, _, _, _, _, _, _, _, _, _, _, _, _, _, _, _, _, _, _, _, rfl, h.symm⟩
theorem z98.l0_sound (hI : InlOK Tryz.prog z98.C fun R => z98.C.inlK 6) (st : Env × Store) (p : LPack) (h : (matchSt z98.l0sh st).bind z98.l0pack = some p) : p.sound (z98.C.loopG (z98.C.inlK 6) 10 0 0 (loopAt 0 (ifun Tryz.f10).body) st.2.length) st := by
  obtain ⟨ls, h1, h2⟩ := Option.bind_eq_some_iff.1 h
  have h1 := matchSt_fill h1
  obtain ⟨t1001, l1002, m1003, k1004, t1005, t1006, s1007, s1008, s1009, s1010, s1011, s1012, s1013, s1014, s1015, s1016, s1017, s1018, s1019, s1020, s1021, s1022, s1023, s1024, s1025, s1026, rfl, rfl⟩ := z98.l0pk h2
  have hst : st = z98.l0enc t1001 l1002 m1003 k1004 t1005 s1007 s1008 s1009 s1010 s1011 s1012 s1013 s1014 s1015 s1016 s1017 s1018 s1019 s1020 s1021 s1022 s1023 s1024 s1025 s1026 t1006 := h1.symm.trans (by kernel_rfl)
  have hn : (z98.l0enc t1001 l1002 m1003 k1004 t1005 s1007 s1008 s1009 s1010 s1011 s1012 s1013 s1014 s1015 s1016 s1017 s1018 s1019 s1020 s1021 s1022 s1023 s1024 s1025 s1026 t1006).2.length = 4 := by kernel_rfl
  rw [hst, hn]
  intro o ho
  have key := lfp_sound (I := fun R => z98.C.inlK 6) hI (σ := Int) (τ := ((Int) ⊕ (Bool))) (fid := 10) (id := 0) (base := 0) (n := 4) (b := (loopAt 0 (ifun Tryz.f10).body)) (F := fun R rec done x => z98.l0P l1002 m1003 t1005 s1015 rec done x) (enc := z98.l0enc t1001 l1002 m1003 k1004 t1005 s1007 s1008 s1009 s1010 s1011 s1012 s1013 s1014 s1015 s1016 s1017 s1018 s1019 s1020 s1021 s1022 s1023 s1024 s1025 s1026) (dec := fun st => (matchSt z98.l0sh st).bind z98.l0un) (out := fun o => match o with | .inl o => z98.l0out0 t1001 l1002 m1003 k1004 t1005 t1006 s1007 s1008 s1009 s1010 s1011 s1012 s1013 s1014 s1015 s1016 s1017 s1018 s1019 s1020 s1021 s1022 s1023 s1024 s1025 s1026 o | .inr o => z98.l0out1 t1001 l1002 m1003 k1004 t1005 t1006 s1007 s1008 s1009 s1010 s1011 s1012 s1013 s1014 s1015 s1016 s1017 s1018 s1019 s1020 s1021 s1022 s1023 s1024 s1025 s1026 o) (decO := z98.l0uo)
    (fun x => by kernel_rfl) (fun o => by cases o <;> kernel_rfl) (fun R k d x' => (z98.l0_link R k d t1001 l1002 m1003 k1004 t1005 (x') s1007 s1008 s1009 s1010 s1011 s1012 s1013 s1014 s1015 s1016 s1017 s1018 s1019 s1020 s1021 s1022 s1023 s1024 s1025 s1026).trans (congrArg (fun dn => z98.l0P l1002 m1003 t1005 s1015 (fun x' => k (z98.l0enc t1001 l1002 m1003 k1004 t1005 s1007 s1008 s1009 s1010 s1011 s1012 s1013 s1014 s1015 s1016 s1017 s1018 s1019 s1020 s1021 s1022 s1023 s1024 s1025 s1026 x')) dn x') (funext fun o => by cases o <;> rfl))) (x := t1006) (o := o) ho
  cases o <;> exact key
theorem fun10 : FunOK Tryz.prog 10 Tryz.f10 (ifun Tryz.f10).body := ⟨Tryz.func10, rfl, by kernel_rfl⟩
theorem once10 : loopsOnce (ifun Tryz.f10).body = true := by kernel_rfl
theorem z98.loopsT (hI : InlOK Tryz.prog z98.C fun R => z98.C.inlK 6) : LoopsOK z98.C (fun R => z98.C.inlK 6) 10 0 (ifun Tryz.f10).body := by
  intro id b hm st p hp
  obtain rfl := loopsOnce_mem once10 hm
  unfold z98.C at hp
  simp only at hp
  try split at hp
  all_goals first
    | (simp at hp; done)
    | (exfalso; omega)
    | exact z98.l0_sound hI st p hp
theorem z98.inlF : InlF Tryz.prog z98.C where
  prim g h hp := by simp [z98.C] at hp
  fn g fn h := by simp [z98.C] at h
  loops g fn h := by simp [z98.C] at h
theorem z98.ctx : CtxOK Tryz.prog z98.C where
  tab := tab_ok
  mixed := mixed_ok
  call g vs p _ _ h := by
    unfold z98.C at h; simp only at h; split at h
    · exact z19.sound vs p h
    · exact z91.sound vs p h
    · exact z97.sound vs p h
    · exact z93.sound vs p h
    · simp at h
  clone g e _ h := by
    simp [z98.C] at h
theorem z98.hdec : ∀ v r, z98.dec v = some r → relax3 v = z98.enc r ∧ imm3 (z98.enc r) = true := by
  intro v r h
  unfold z98.dec at h
  split at h
  case h_2 => simp at h
  simp only [Option.some.injEq] at h
  subst h
  exact ⟨rfl, rfl⟩
theorem z98.pk {vs : List V} {p : Pack} (h : z98.pack vs = some p) : ∃ (a0 : Int) (a1 : Int) (a2 : Int) (a3 : Int) (a4 : Int) (a5 : Int) (a6 : Int) (a7 : Int) (a8 : Int) (a9 : Int) (a10 : Int) (a11 : Int) (a12 : Int), vs = [(.agg [(.int .u64 a0), (.int .u16 a1), (.int .u32 a2), (.int .u8 a3), (.int .u8 a4), (.int .u8 a5), (.int .u8 a6), (.int .u8 a7), (.int .u8 a8), (.int .i64 a9), (.int .i64 a10), (.int .i64 a11)]), (.int .u8 a12)] ∧ p = ⟨Bool, z98.F a0 a1 a2 a3 a4 a5 a6 a7 a8 a9 a10 a11 a12, z98.enc⟩ := by
  unfold z98.pack at h
  split at h
  case h_2 => simp at h
  simp only [Option.some.injEq] at h
  exact ⟨_, _, _, _, _, _, _, _, _, _, _, _, _, rfl, h.symm⟩
theorem z98.sound (vs : List V) (p : Pack) (h : z98.pack vs = some p) : SoundC Tryz.prog 10 vs p := by
  obtain ⟨a0, a1, a2, a3, a4, a5, a6, a7, a8, a9, a10, a11, a12, rfl, rfl⟩ := z98.pk h
  exact top_sound z98.ctx z98.inlF fun10 (z98.loopsT (inl_ok z98.ctx z98.inlF 6)) rfl (z98.link a0 a1 a2 a3 a4 a5 a6 a7 a8 a9 a10 a11 a12) z98.hdec
end
end Go.Proofs.YtgjncgiekniniaaGreatDoor.A
end
section
set_option linter.unusedVariables false
set_option linter.unusedSimpArgs false
namespace Go.Proofs.YtgjncgiekniniaaGreatDoor.A
open Go Go.RowKit Go.ChangeShapes Go.WideShapes
noncomputable section
inductive SC where
  | b
  | i (k : IntKind)
  | s
inductive CT where
  | sc (c : SC)
  | sl (cs : List SC)
def scOf : CT → Option SC
  | .sc c => some c
  | _ => none
def scsOf : List CT → Option (List SC)
  | [] => some []
  | c :: l => (scOf c).bind fun x => (scsOf l).map (x :: ·)
def okS : SC → V → Prop
  | .b, v => ∃ x, v = .bool x
  | .i k, v => ∃ n, v = .int k n ∧ (Lit.int k n).wf = true
  | .s, v => ∃ l, v = .str l ∧ l.length ≤ maxLen
def okSL : List SC → List V → Prop
  | [], vs => vs = []
  | c :: cs, vs => ∃ v l, vs = v :: l ∧ okS c v ∧ okSL cs l
def okC : CT → V → Prop
  | .sc c, v => okS c v
  | .sl [.i k], v => ∃ l, v = .ints false k l ∧ (∀ n ∈ l, (Lit.int k n).wf = true) ∧ l.length ≤ maxLen
  | .sl [.s], v => ∃ l, v = .strs false l ∧ (∀ s ∈ l, s.length ≤ maxLen) ∧ l.length ≤ maxLen
  | .sl cs, v => ∃ l, v = .recs false cs.length l ∧ (∀ r ∈ l, okSL cs r) ∧ l.length ≤ maxLen
def okCL : List CT → List V → Prop
  | [], vs => vs = []
  | c :: cs, vs => ∃ v l, vs = v :: l ∧ okC c v ∧ okCL cs l
def ctsF (P : Program) (rec : TypeId → Option (List CT)) : Nat → List Field → Option (List CT)
  | _, [] => some []
  | off, f :: fs => if f.offset = off then (rec f.type).bind fun l => if P.cellsOf f.type = l.length then (ctsF P rec (off + l.length) fs).map (l ++ ·) else none else none
def ctsA (l : List CT) : Nat → List CT
  | 0 => []
  | n + 1 => l ++ ctsA l n
def cts (P : Program) : Nat → TypeId → Option (List CT)
  | 0, _ => none
  | n + 1, t =>
    match P.underlying t with
    | some .bool => some [.sc .b]
    | some (.int k) => some [.sc (.i k)]
    | some .string => some [.sc .s]
    | some (.struct fs) => (ctsF P (cts P n) 0 fs.toList).bind fun l => if P.cellsOf t = l.length then some l else none
    | some (.array m e) => (cts P n e).bind fun l => if P.cellsOf e = l.length ∧ P.cellsOf t = m * l.length then some (ctsA l m) else none
    | some (.slice e) => (cts P n e).bind fun l => (scsOf l).bind fun cs => if P.cellsOf e = cs.length ∧ 0 < cs.length then some [.sl cs] else none
    | _ => none
abbrev noO : Nat → Prop := fun _ => False
def cellR (W : World) (c : CT) (cv : Value) (v : V) : Prop := okC c v ∧ Rep0 noO W cv v ∧ cv.oneCell' = true
def cellsR (W : World) (l : List CT) (cs : List Value) (vs : List V) : Prop :=
  cs.length = l.length ∧ vs.length = l.length ∧ ∀ (j : Nat) (c : CT) (cv : Value) (v : V), l[j]? = some c → cs[j]? = some cv → vs[j]? = some v → cellR W c cv v
theorem cellsR_nil (W : World) : cellsR W [] [] [] := ⟨rfl, rfl, fun (j : Nat) c cv v h => by simp at h⟩
theorem cellsR_one {W : World} {c : CT} {cv : Value} {v : V} (h : cellR W c cv v) : cellsR W [c] [cv] [v] := by
  refine ⟨rfl, rfl, fun j c' cv' v' h1 h2 h3 => ?_⟩
  cases j with
  | zero => simp at h1 h2 h3; subst h1 h2 h3; exact h
  | succ j => simp at h1
theorem cellsR_append {W : World} {l l' : List CT} {cs cs' : List Value} {vs vs' : List V} (h : cellsR W l cs vs) (h' : cellsR W l' cs' vs') : cellsR W (l ++ l') (cs ++ cs') (vs ++ vs') := by
  obtain ⟨a1, a2, a3⟩ := h; obtain ⟨b1, b2, b3⟩ := h'
  refine ⟨by simp [a1, b1], by simp [a2, b2], fun j c cv v h1 h2 h3 => ?_⟩
  by_cases hj : j < l.length
  · rw [List.getElem?_append_left hj] at h1
    rw [List.getElem?_append_left (by omega)] at h2 h3
    exact a3 j c cv v h1 h2 h3
  · rw [List.getElem?_append_right (by omega)] at h1 h2 h3
    rw [a1] at h2; rw [a2] at h3
    exact b3 _ c cv v h1 h2 h3
theorem okCL_of {W : World} : ∀ {l : List CT} {cs : List Value} {vs : List V}, cellsR W l cs vs → okCL l vs
  | [], cs, vs, h => List.length_eq_zero_iff.1 h.2.1
  | c :: l, cs, vs, h => by
    obtain ⟨h1, h2, h3⟩ := h
    match cs, vs, h1, h2 with
    | cv :: cs, v :: vs, h1, h2 =>
      exact ⟨v, vs, rfl, (h3 0 c cv v rfl rfl rfl).1, okCL_of (cs := cs) ⟨by simpa using h1, by simpa using h2, fun j c' cv' v' a b d => h3 (j + 1) c' cv' v' (by simpa using a) (by simpa using b) (by simpa using d)⟩⟩
theorem okSL_of : ∀ {l : List CT} {ss : List SC} {vs : List V}, scsOf l = some ss → okCL l vs → okSL ss vs
  | [], ss, vs, h, hv => by simp [scsOf] at h; subst h; exact hv
  | c :: l, ss, vs, h, hv => by
    simp only [scsOf, Option.bind_eq_some_iff, Option.map_eq_some_iff] at h
    obtain ⟨x, hx, y, hy, rfl⟩ := h
    obtain ⟨v, r, rfl, h1, h2⟩ := hv
    refine ⟨v, r, rfl, ?_, okSL_of hy h2⟩
    cases c with
    | sc c => simp [scOf] at hx; subst hx; exact h1
    | sl _ => simp [scOf] at hx
theorem scsOf_len : ∀ {l : List CT} {ss : List SC}, scsOf l = some ss → ss.length = l.length
  | [], ss, h => by simp [scsOf] at h; subst h; rfl
  | c :: l, ss, h => by
    simp only [scsOf, Option.bind_eq_some_iff, Option.map_eq_some_iff] at h
    obtain ⟨x, hx, y, hy, rfl⟩ := h
    simp [scsOf_len hy]
theorem list_of_each {α : Type} {Q : Nat → α → Prop} : ∀ {n : Nat}, (∀ i, i < n → ∃ x, Q i x) → ∃ l : List α, l.length = n ∧ ∀ (i : Nat) (x : α), l[i]? = some x → Q i x
  | 0, _ => ⟨[], rfl, fun i x h => by simp at h⟩
  | n + 1, h => by
    obtain ⟨l, h1, h2⟩ := list_of_each (n := n) fun i hi => h i (by omega)
    obtain ⟨x, hx⟩ := h n (by omega)
    refine ⟨l ++ [x], by simp [h1], fun i y hy => ?_⟩
    by_cases hi : i < l.length
    · rw [List.getElem?_append_left hi] at hy; exact h2 i y hy
    · rw [List.getElem?_append_right (by omega)] at hy
      have : i - l.length = 0 := by
        rcases Nat.lt_or_ge (i - l.length) 1 with h0 | h0
        · omega
        · rw [List.getElem?_eq_none (by simp; omega)] at hy; simp at hy
      rw [this] at hy; simp at hy; subst hy
      have : i = n := by omega
      subst this; exact hx
theorem flatten_getz {α : Type} (z : Nat) (hz : 0 < z) : ∀ (l : List (List α)) (j : Nat), (∀ e ∈ l, e.length = z) → l.flatten[j]? = (l[j / z]?).bind (·[j % z]?)
  | [], j, _ => by simp
  | e :: l, j, h => by
    have he := h e (by simp)
    rw [List.flatten_cons]
    by_cases hj : j < z
    · rw [List.getElem?_append_left (by omega), Nat.div_eq_of_lt hj, Nat.mod_eq_of_lt hj]; rfl
    · rw [List.getElem?_append_right (by omega), flatten_getz z hz l _ (fun x hx => h x (by simp [hx])), he]
      have h1 : j / z = (j - z) / z + 1 := by rw [← Nat.add_div_right (j - z) hz, Nat.sub_add_cancel (by omega)]
      have h2 : j % z = (j - z) % z := by rw [← Nat.add_mod_right (j - z) z, Nat.sub_add_cancel (by omega)]
      rw [h1, h2]; rfl
theorem ones {α : Type} {c : SC} {f : α → V} {Q : α → Prop} (hc : ∀ v, okS c v → ∃ n, v = f n ∧ Q n) : ∀ vss : List (List V), (∀ r ∈ vss, okSL [c] r) →
    ∃ zs : List α, vss.flatten = zs.map f ∧ zs.length = vss.length ∧ ∀ n ∈ zs, Q n
  | [], _ => ⟨[], rfl, rfl, by simp⟩
  | r :: vss, h => by
    obtain ⟨zs, e1, e2, e3⟩ := ones hc vss fun x hx => h x (by simp [hx])
    obtain ⟨v, l, rfl, hv, hl⟩ := h r (by simp)
    have hl : l = [] := hl
    subst hl
    obtain ⟨n, rfl, hq⟩ := hc v hv
    exact ⟨n :: zs, by simp [e1], by simp [e2], by simpa using ⟨hq, e3⟩⟩
theorem sl_rows {W : World} {t e n m : Nat} {ss : List SC} {l : List CT} {a : Addr} {len cap : Nat} (hs : scsOf l = some ss) (hz : 0 < ss.length) (hl : len ≤ cap) (hm : cap ≤ maxLen)
    (h : ∀ i, i < len → ∃ cs vs, W.cells? 0 (a.add (i * ss.length)) ss.length = some cs ∧ cellsR W l cs vs) : ∃ v, okC (.sl ss) v ∧ Rep0 noO W (.slice (some a) len cap) v := by
  obtain ⟨rows, h1, h2⟩ := list_of_each h
  have hsl := scsOf_len hs
  have hrow : ∀ (i : Nat) (r : List Value), rows[i]? = some r → ∃ vs : List V, r.length = ss.length ∧ okSL ss vs ∧ vs.length = ss.length ∧ ∀ (j : Nat) (cv : Value) (v : V), r[j]? = some cv → vs[j]? = some v → W.cell? (a.add (i * ss.length + j)) = some cv ∧ Rep0 noO W cv v ∧ cv.oneCell' = true := by
    intro i r hr
    obtain ⟨vs, hc, hv⟩ := h2 i r hr
    obtain ⟨_, hlen, hcell⟩ := World.cells?_some hc
    refine ⟨vs, hlen, okSL_of hs (okCL_of hv), hv.2.1.trans hsl.symm, fun j cv v hj hjv => ?_⟩
    have hjl : j < l.length := by have := (List.getElem?_eq_some_iff.1 hj).1; omega
    have := hv.2.2 j l[j] cv v (by simp) hj hjv
    refine ⟨?_, this.2⟩
    rw [← Go.Deep.add_add, hcell j (by omega), hj]
  have hall : ∀ i, i < rows.length → ∃ vs : List V, okSL ss vs ∧ vs.length = ss.length ∧ ∀ (j : Nat) (v : V), vs[j]? = some v → ∃ cv, W.cell? (a.add (i * ss.length + j)) = some cv ∧ Rep0 noO W cv v ∧ cv.oneCell' = true := by
    intro i hi
    obtain ⟨vs, q1, q2, q3, q4⟩ := hrow i rows[i] (by simp [hi])
    refine ⟨vs, q2, q3, fun j v hv => ?_⟩
    have : j < ss.length := by have := (List.getElem?_eq_some_iff.1 hv).1; omega
    exact ⟨_, q4 j (rows[i][j]'(by omega)) v (by simp) hv⟩
  obtain ⟨vss, g1, g2⟩ := list_of_each hall
  have hvlen : ∀ e ∈ vss, e.length = ss.length := fun e he => by obtain ⟨i, hi, rfl⟩ := List.getElem_of_mem he; exact (g2 i _ (by simp [hi])).2.1
  have gen : ∀ v : V, flatV v = some (len, vss.flatten) → isExact v = false → Rep0 noO W (.slice (some a) len cap) v := by
    intro v hf hx
    have hcell : ∀ (j : Nat) (v : V), vss.flatten[j]? = some v → ∃ cv, W.cell? (a.add j) = some cv ∧ Rep0 noO W cv v ∧ cv.oneCell' = true := by
      intro j v hv
      rw [flatten_getz ss.length hz vss j hvlen] at hv
      obtain ⟨r, hr, hv⟩ := Option.bind_eq_some_iff.1 hv
      obtain ⟨cv, k1, k2⟩ := (g2 _ r hr).2.2 _ v hv
      refine ⟨cv, ?_, k2⟩
      rw [show j = j / ss.length * ss.length + j % ss.length by rw [Nat.mul_comm]; exact (Nat.div_add_mod j ss.length).symm]
      exact k1
    refine .slice (some a) len cap v vss.flatten (fun j => (W.cell? (a.add j)).getD Go.undef) hf (by simp [hx]) hl (by simp) (fun j hj => ?_) (fun j hj => ?_) (fun j hj => ?_)
    · obtain ⟨cv, k1, k2, k3⟩ := hcell j _ (List.getElem?_eq_getElem hj)
      exact ⟨a, rfl, fun h => h.elim, by rw [k1]; rfl⟩
    · obtain ⟨cv, k1, k2, k3⟩ := hcell j _ (List.getElem?_eq_getElem hj)
      rw [k1]; exact k3
    · obtain ⟨cv, k1, k2, k3⟩ := hcell j _ (List.getElem?_eq_getElem hj)
      rw [k1]; exact k2
  have hlen' : vss.length = len := by omega
  have recs : ∃ v, (∃ l, v = V.recs false ss.length l ∧ (∀ r ∈ l, okSL ss r) ∧ l.length ≤ maxLen) ∧ Rep0 noO W (.slice (some a) len cap) v := by
    refine ⟨.recs false ss.length vss, ⟨vss, rfl, fun r hr => ?_, by omega⟩, gen _ ?_ rfl⟩
    · obtain ⟨i, hi, rfl⟩ := List.getElem_of_mem hr; exact (g2 i _ (by simp [hi])).1
    · simp only [flatV]; rw [if_pos ⟨hz, hvlen⟩, hlen']
  match ss, hs, hz, recs, g2, gen, hvlen with
  | [], _, hz, _, _, _, _ => simp at hz
  | [.b], _, _, recs, _, _, _ => exact recs
  | x :: y :: _, _, _, recs, _, _, _ => exact by cases x <;> exact recs
  | [.i k], _, _, recs, g2, gen, hvlen =>
    obtain ⟨zs, e1, e2, e3⟩ := ones (c := .i k) (f := V.int k) (fun v h => h) vss fun r hr => by
      obtain ⟨i, hi, rfl⟩ := List.getElem_of_mem hr; exact (g2 i _ (by simp [hi])).1
    refine ⟨.ints false k zs, ⟨zs, rfl, e3, by omega⟩, gen _ ?_ rfl⟩
    simp only [flatV]; rw [e1, e2, hlen']
  | [.s], _, _, recs, g2, gen, hvlen =>
    obtain ⟨zs, e1, e2, e3⟩ := ones (c := .s) (f := V.str) (fun v h => h) vss fun r hr => by
      obtain ⟨i, hi, rfl⟩ := List.getElem_of_mem hr; exact (g2 i _ (by simp [hi])).1
    refine ⟨.strs false zs, ⟨zs, rfl, e3, by omega⟩, gen _ ?_ rfl⟩
    simp only [flatV]; rw [e1, e2, hlen']
theorem sl_nil {W : World} {ss : List SC} (hz : 0 < ss.length) : ∃ v, okC (.sl ss) v ∧ Rep0 noO W (.slice none 0 0) v := by
  have gen : ∀ v : V, flatV v = some (0, []) → isExact v = false → Rep0 noO W (.slice none 0 0) v := fun v hf hx =>
    .slice none 0 0 v [] (fun _ => Go.undef) hf (by simp [hx]) (Nat.le_refl _) (fun _ => rfl) (fun j hj => by simp at hj) (fun j hj => by simp at hj) (fun j hj => by simp at hj)
  match ss, hz with
  | [.i k], _ => exact ⟨.ints false k [], ⟨[], rfl, by simp, by simp⟩, gen _ rfl rfl⟩
  | [.s], _ => exact ⟨.strs false [], ⟨[], rfl, by simp, by simp⟩, gen _ rfl rfl⟩
  | [.b], _ => exact ⟨.recs false 1 [], ⟨[], rfl, by simp, by simp⟩, gen _ (by simp [flatV]) rfl⟩
  | a :: a' :: ss, _ => exact ⟨.recs false (a :: a' :: ss).length [], by cases a <;> exact ⟨[], rfl, by simp, by simp⟩, gen _ (by simp [flatV]) rfl⟩
section
variable {H : Type} {enc : TypeId × Value → H} {P : Program} {W : World}
theorem trod_cells : ∀ (n : Nat) (t : TypeId) (l : List CT), cts P n t = some l → ∀ (fuel : Nat) (cs : List Value) (x : DataW H × List MemPlace), DataW.trod enc P W 0 (fun _ => true) true fuel t cs = some x →
    ∃ vs, cellsR W l cs vs
  | 0, t, l, h, _, _, _, _ => by simp [cts] at h
  | n + 1, t, l, h, fuel, cs, x, hx => by
    unfold cts at h
    split at h
    · rename_i ht
      simp at h; subst h
      obtain ⟨bb, rfl, _⟩ := DataW.trod_bool ht hx
      exact ⟨[.bool bb], cellsR_one ⟨⟨bb, rfl⟩, .bool bb, rfl⟩⟩
    · rename_i k ht
      simp at h; subst h
      obtain ⟨b, rfl, _, hw⟩ := DataW.trod_int ht hx
      exact ⟨[.int k b], cellsR_one ⟨⟨b, rfl, hw⟩, .int k b, rfl⟩⟩
    · rename_i ht
      simp at h; subst h
      obtain ⟨b, rfl, _, hw⟩ := DataW.trod_string ht hx
      exact ⟨[.str b.data.toList], cellsR_one ⟨⟨_, rfl, by simpa using hw⟩, .str _ _ rfl, rfl⟩⟩
    · rename_i fs ht
      obtain ⟨l', h1, h2⟩ := Option.bind_eq_some_iff.1 h
      split at h2
      case isFalse => simp at h2
      rename_i hsz
      simp at h2; subst h2
      obtain ⟨xs, m, _, _, hlen, hxl, hf⟩ := DataW.trod_struct ht hx
      have key : ∀ (gs : List Field) (off : Nat) (l' : List CT), ctsF P (cts P n) off gs = some l' → (∀ f ∈ gs, ∃ y, DataW.trod enc P W 0 (fun _ => true) true m f.type ((cs.drop f.offset).take (P.cellsOf f.type)) = some y) →
          ∃ vs, cellsR W l' ((cs.drop off).take l'.length) vs := by
        intro gs
        induction gs with
        | nil => intro off l' h _; simp [ctsF] at h; subst h; exact ⟨[], by simpa using cellsR_nil W⟩
        | cons f gs ih =>
          intro off l' h hg
          unfold ctsF at h
          split at h
          case isFalse => simp at h
          rename_i hoff
          obtain ⟨lf, h1, h2⟩ := Option.bind_eq_some_iff.1 h
          split at h2
          case isFalse => simp at h2
          rename_i hsz
          obtain ⟨l2, h3, rfl⟩ := Option.map_eq_some_iff.1 h2
          obtain ⟨y, hy⟩ := hg f (by simp)
          obtain ⟨vs1, c1⟩ := trod_cells n f.type lf h1 m _ y hy
          obtain ⟨vs2, c2⟩ := ih _ _ h3 fun f' hf' => hg f' (by simp [hf'])
          refine ⟨vs1 ++ vs2, ?_⟩
          have hc := cellsR_append c1 c2
          rw [hoff, hsz] at hc
          have hl1 : lf.length ≤ (cs.drop off).length := by
            have := c1.1; rw [hoff, hsz, List.length_take] at this; omega
          rw [List.length_append, List.take_add, List.drop_drop]
          exact hc
      have hall : ∀ f ∈ fs.toList, ∃ y, DataW.trod enc P W 0 (fun _ => true) true m f.type ((cs.drop f.offset).take (P.cellsOf f.type)) = some y := by
        intro f hf'
        obtain ⟨i, hi, rfl⟩ := List.getElem_of_mem hf'
        have hi' : i < fs.size := by simpa using hi
        have := hf i (fs.toList[i]) (by simp [hi'])
        rw [List.getElem?_eq_getElem (by omega)] at this
        exact ⟨_, this⟩
      obtain ⟨vs, hv⟩ := key fs.toList 0 _ h1 hall
      refine ⟨vs, ?_⟩
      rwa [List.drop_zero, List.take_of_length_le (by omega)] at hv
    · rename_i m e ht
      obtain ⟨l', h1, h2⟩ := Option.bind_eq_some_iff.1 h
      split at h2
      case isFalse => simp at h2
      rename_i hsz
      simp at h2; subst h2
      obtain ⟨xs, q, _, _, hlen, hxl, hf⟩ := DataW.trod_array ht hx
      have key : ∀ (k : Nat), k ≤ m → ∃ vs, cellsR W (ctsA l' k) ((cs.drop ((m - k) * l'.length)).take (k * l'.length)) vs := by
        intro k
        induction k with
        | zero => intro _; exact ⟨[], by simpa [ctsA] using cellsR_nil W⟩
        | succ k ih =>
          intro hk
          obtain ⟨vs2, c2⟩ := ih (by omega)
          have h3 := hf (m - (k + 1)) (by omega)
          rw [List.getElem?_eq_getElem (by omega)] at h3
          obtain ⟨vs1, c1⟩ := trod_cells n e l' h1 q _ _ h3
          refine ⟨vs1 ++ vs2, ?_⟩
          have hc := cellsR_append c1 c2
          rw [hsz.1] at hc
          have e1 : (m - k) * l'.length = (m - (k + 1)) * l'.length + l'.length := by
            rw [← Nat.succ_mul]; congr 1; omega
          have e2 : (k + 1) * l'.length = l'.length + k * l'.length := by rw [Nat.succ_mul, Nat.add_comm]
          rw [e1, ← List.drop_drop] at hc
          rw [e2, List.take_add]
          exact hc
      obtain ⟨vs, hv⟩ := key m (Nat.le_refl _)
      refine ⟨vs, ?_⟩
      rwa [Nat.sub_self, Nat.zero_mul, List.drop_zero, List.take_of_length_le (by omega)] at hv
    · rename_i e ht
      obtain ⟨l', h1, h2⟩ := Option.bind_eq_some_iff.1 h
      obtain ⟨ss, h3, h4⟩ := Option.bind_eq_some_iff.1 h2
      split at h4
      case isFalse => simp at h4
      rename_i hsz
      simp at h4; subst h4
      rcases Go.Deep.open_slice ht hx with ⟨rfl, _⟩ | ⟨a, len, cap, m, q, D, Pl, rfl, _, hl, hm, hmm, _, hi⟩
      · obtain ⟨v, k1, k2⟩ := sl_nil (W := W) hsz.2
        exact ⟨[v], cellsR_one ⟨k1, k2, rfl⟩⟩
      · simp only [if_true] at hmm
        subst hmm
        rw [hsz.1] at hi
        obtain ⟨v, k1, k2⟩ := sl_rows (t := 0) (e := 0) (n := 0) (m := 0) h3 hsz.2 hl hm fun i hi' => by
          obtain ⟨cs', c1, c2⟩ := hi i (by omega)
          obtain ⟨vs, c3⟩ := trod_cells n e l' h1 q _ _ c2
          exact ⟨cs', vs, c1, c3⟩
        exact ⟨[v], cellsR_one ⟨k1, k2, rfl⟩⟩
    · simp at h
inductive AT where
  | one (c : CT)
  | agg (l : List CT)
def okA : AT → V → Prop
  | .one c, v => okC c v
  | .agg l, v => ∃ vs, v = .agg vs ∧ okCL l vs
def okAL : List AT → List V → Prop
  | [], vs => vs = []
  | c :: cs, vs => ∃ v l, vs = v :: l ∧ okA c v ∧ okAL cs l
def atOf (P : Program) (n : Nat) (t : TypeId) : Option AT :=
  (cts P n t).bind fun l => match P.underlying t with
    | some (.struct _) | some (.array _ _) => some (.agg l)
    | _ => match l with
      | [c] => some (.one c)
      | _ => none
def atsOf (P : Program) (n : Nat) : List TypeId → Option (List AT)
  | [] => some []
  | t :: ts => (atOf P n t).bind fun x => (atsOf P n ts).map (x :: ·)
theorem arg_V {n : Nat} {t : TypeId} {q : AT} (hq : atOf P n t = some q) {base : Nat} {v : Value} {d : DataW H} {ps : List MemPlace} (hval : Value.okWide P W .any base t v) (h : DataW.Trod enc P W 0 (fun _ => true) true t v d ps) :
    ∃ x, okA q x ∧ Rep0 noO W v x := by
  obtain ⟨l, h1, h2⟩ := Option.bind_eq_some_iff.1 hq
  obtain ⟨fuel, hf⟩ := h
  obtain ⟨vs, hv⟩ := trod_cells n t l h1 fuel _ _ hf
  have aggCase : (∃ cs, v = .agg cs) → ∃ x, okA (.agg l) x ∧ Rep0 noO W v x := by
    rintro ⟨cs, rfl⟩
    have hc : (Value.agg cs).cells.toList = cs.toList := rfl
    rw [hc] at hv
    refine ⟨.agg vs, ⟨vs, rfl, okCL_of hv⟩, .agg cs vs (by have := hv.1; have := hv.2.1; simp at *; omega) (fun j hj => ?_) (fun j hj => ?_)⟩ <;>
    · have hj1 : j < cs.size := by have := hv.1; have := hv.2.1; simp at *; omega
      have := hv.2.2 j (l[j]'(by have := hv.2.1; omega)) cs[j] vs[j] (by simp) (by simp [hj1]) (by simp)
      have e : cs.getD j Go.undef = cs[j] := by simp [Array.getD, hj1]
      rw [e]
      first | exact this.2.2 | exact this.2.1
  split at h2
  · rename_i fs ht
    simp at h2; subst h2
    obtain ⟨cs, rfl, _⟩ := okWide_struct ht hval
    exact aggCase ⟨cs, rfl⟩
  · rename_i m e ht
    simp at h2; subst h2
    unfold Value.okWide at hval
    rw [ht] at hval
    obtain ⟨cs, rfl, _⟩ := hval
    exact aggCase ⟨cs, rfl⟩
  · rename_i hns hna
    split at h2
    case h_2 => simp at h2
    rename_i c
    simp at h2; subst h2
    obtain ⟨a1, a2, a3⟩ := hv
    match vs, a2 with
    | [x], _ =>
      have hcells : v.cells = #[v] := by
        cases v with
        | agg cs =>
          exfalso
          unfold Value.okWide at hval
          cases n with
          | zero => simp [cts] at h1
          | succ n =>
            unfold cts at h1
            split at h1 <;> rename_i ht
            · rw [ht] at hval; simp [Cell.okWide, Cell.ok, ht] at hval
            · rw [ht] at hval; simp [Cell.okWide, Cell.ok, ht] at hval
            · rw [ht] at hval; simp [Cell.okWide, Cell.ok, ht] at hval
            · exact hns _ ht
            · exact hna _ _ ht
            · rw [ht] at hval; simp [Cell.okWide, Cell.ok, ht] at hval
            · simp at h1
        | _ => rfl
      rw [hcells] at a3
      have := a3 0 c v x rfl rfl rfl
      exact ⟨x, this.1, this.2.1⟩
theorem args_V {n : Nat} : ∀ {ts : List TypeId} {qs : List AT} {args : List Value} {ds : List (DataW H)} {ps : List MemPlace} {base : Nat}, atsOf P n ts = some qs → DataW.TrodAll enc P W 0 (fun _ => true) true ts args ds ps →
    (∀ (j : Nat) t v, ts[j]? = some t → args[j]? = some v → Value.okWide P W .any base t v) →
    ∃ vs, args.length = vs.length ∧ okAL qs vs ∧ ∀ j (h : j < vs.length), Rep0 noO W (args.getD j Go.undef) vs[j]
  | [], qs, args, ds, ps, base, hq, h, _ => by
    simp [atsOf] at hq; subst hq
    obtain ⟨rfl, rfl, rfl⟩ := trodAll_nil h
    exact ⟨[], rfl, rfl, fun j h => by simp at h⟩
  | t :: ts, qs, args, ds, ps, base, hq, h, hval => by
    simp only [atsOf, Option.bind_eq_some_iff, Option.map_eq_some_iff] at hq
    obtain ⟨q, hq1, qs', hq2, rfl⟩ := hq
    obtain ⟨v, vs, d, ds', p, p', rfl, rfl, rfl, h1, h2⟩ := trodAll_cons h
    obtain ⟨x, k1, k2⟩ := arg_V hq1 (hval 0 t v rfl rfl) h1
    obtain ⟨xs, l1, l2, l3⟩ := args_V hq2 h2 fun j t v a b => hval (j + 1) t v (by simpa using a) (by simpa using b)
    refine ⟨x :: xs, by simp [l1], ⟨x, xs, rfl, k1, l2⟩, fun j hj => ?_⟩
    cases j with
    | zero => exact k2
    | succ j => simpa using l3 j (by simpa using hj)
theorem stays_all {ts : List TypeId} (hl : laidOutB P = true) (hr : ts.all (fun t => P.readableRec t && decide (t < P.types.size)) = true) {W' : World} (hb : Below W.heap.size W W') {sp : Nat → Bool} :
    ∀ {vs : List Value} {ds : List (DataW H)} {ps : List MemPlace}, DataW.TrodAll enc P W 0 (fun _ => true) true ts vs ds ps → (∀ x ∈ ps, x.block < W.heap.size) → (∀ x ∈ ps, sp x.block = true) →
      DataW.TrodAll enc P W' 0 sp true ts vs ds ps := by
  induction ts with
  | nil =>
    intro vs ds ps h _ _
    obtain ⟨rfl, rfl, rfl⟩ := trodAll_nil h
    exact trodAll_mk0
  | cons t ts ih =>
    intro vs ds ps h hlt hsp
    obtain ⟨v, vs', d, ds', p, p', rfl, rfl, rfl, h1, h2⟩ := trodAll_cons h
    simp only [List.all_cons, Bool.and_eq_true, decide_eq_true_eq] at hr
    exact trodAll_cons_mk (WideElems.Trod_stays hl hr.1.1 hr.1.2 h1 (fun x hx => hb.same (hlt x (by simp [hx]))) (fun x hx => hsp x (by simp [hx])))
      (ih hr.2 h2 (fun x hx => hlt x (by simp [hx])) (fun x hx => hsp x (by simp [hx])))
theorem post_below {f : Func} {s : ChangeSpec} {apart fresh handsOn again : Bool} {W W' : World} {args : Array Value} {v : Value} {ds gs : List (DataW H)} {before pa pv : List MemPlace}
    (hW : DataW.Whole enc P f.params.toList s.vars apart W args.toList ds gs before)
    (hres : ∀ (b : Nat) (sp : Nat → Bool) (hd : Bool), DataW.TrodAll enc P W' b sp hd f.resultTypes.toList (v.resultList f.resultTypes.size) (s.fn H (ds ++ gs)).results [])
    (hargs : ∀ sp : Nat → Bool, (∀ p ∈ before, sp p.block = true) → DataW.TrodAll enc P W' 0 sp true f.params.toList args.toList (s.fn H (ds ++ gs)).args pa)
    (hvars : ∀ sp : Nat → Bool, (∀ p ∈ before, sp p.block = true) → DataW.TrodVars enc P W' sp s.vars (s.fn H (ds ++ gs)).vars pv)
    (hps : before = pa ++ pv) (hb : Below W.heap.size W W')
    (hok : ∀ (j : Nat) (t : TypeId) (r : Value), f.resultTypes[j]? = some t → (v.resultList f.resultTypes.size)[j]? = some r → Value.okWide P W' .any 0 t r) :
    s.post enc P f apart fresh handsOn again W args v W' := by
  have hlt : ∀ p ∈ before, p.block < W.heap.size := fun p hp => hW.lt p hp
  have hold : ∀ p ∈ before, (fun b => decide (b < W.heap.size)) p.block = true := fun p hp => by simpa using hlt p hp
  refine ⟨ds, gs, before, [], pa, pv, hW, hres _ _ _, hargs _ hold, hvars _ hold, World.keptBut_mono (fun p hp => ⟨hp, ?_⟩) (hb.frame (· ∈ before)), fun _ => ?_⟩
  · rw [hps, List.mem_append] at hp
    exact Or.inr hp
  · obtain ⟨_, _, _, _, _, hz, hn⟩ := hW
    refine ⟨hok, _, _, ([] ++ pa) ++ pv, ⟨[] ++ pa, pv, trodAll_append (hargs _ (fun _ _ => rfl)) (hres _ _ _), hvars _ (fun _ _ => rfl), rfl, ?_, ?_⟩, ?_⟩
    · intro b off hp
      have hin : MemPlace.cell b off ∈ before := by rw [hps]; simpa using hp
      rw [hb.frozen (hlt _ hin)]
      exact hz b off hin
    · intro ha
      have := hn ha
      rw [hps] at this
      simpa using this
    · intro p hp _
      rw [hps]
      simpa using hp
theorem law_contract {g : Nat} {f : Func} {c : Code} (hf : FunOK P g f c) {s : ChangeSpec} {n : Nat} {qs : List AT} {tb : TypeId} (hl : laidOutB P = true) (hr : f.params.toList.all (fun t => P.readableRec t && decide (t < P.types.size)) = true)
    (hq : atsOf P n f.params.toList = some qs) (hres : f.resultTypes = #[tb]) (htb : P.underlying tb = some .bool) (hv : s.vars = [])
    (hs : ∀ ds : List (DataW H), ds.length = f.params.toList.length → s.fn H ds = { results := [.lit (.bool true)], args := ds })
    (plain : ∀ vs, okAL qs vs → ∃ p r, SoundC P g vs p ∧ p.m = some r ∧ p.enc r = .bool true)
    (W : World) (base : Nat) (args : Array Value) (ds gs : List (DataW H)) (before : List MemPlace)
    (hval : ∀ (j : Nat) t v, f.params[j]? = some t → args[j]? = some v → Value.okWide P W .any base t v)
    (hW : DataW.Whole enc P f.params.toList s.vars false W args.toList ds gs before) :
    Calls P g args W fun e W' => ∃ v, e = .returned v ∧ s.post enc P f false true false false W args v W' := by
  have hW' := hW
  have hlt : ∀ p ∈ before, p.block < W.heap.size := fun p hp => hW.lt p hp
  obtain ⟨p, q, hA, hV, rfl, hfz, hnd⟩ := hW
  have hA : DataW.TrodAll enc P W 0 (fun _ => true) true f.params.toList args.toList ds p := hA
  rw [hv] at hV
  obtain ⟨rfl, rfl⟩ := trodVars_none hV
  obtain ⟨vs, h1, h2, h3⟩ := args_V hq hA fun j t v a b => hval j t v (by simpa using a) (by simpa using b)
  obtain ⟨pk, r, hsound, hm, he⟩ := plain vs h2
  have hcall := hsound noO W args r hm (by simpa using h1) (fun j hj => by
    have h4 := h3 j hj
    have : args.getD j Go.undef = args.toList.getD j Go.undef := by
      have hj' : j < args.size := by rw [← Array.length_toList, h1]; exact hj
      simp [Array.getD, List.getD, hj']
    rwa [this]) (fun b h => h.elim)
  unfold CallR at hcall
  rw [hf.enters] at hcall
  have hlen : ∀ {ts : List TypeId} {vs : List Value} {ds : List (DataW H)} {ps : List MemPlace}, DataW.TrodAll enc P W 0 (fun _ => true) true ts vs ds ps → ds.length = ts.length := by
    intro ts
    induction ts with
    | nil => intro vs ds ps h; obtain ⟨_, rfl, _⟩ := trodAll_nil h; rfl
    | cons t ts ih => intro vs ds ps h; obtain ⟨_, _, _, _, _, _, _, rfl, _, _, h2⟩ := trodAll_cons h; simp [ih h2]
  refine hcall.mono fun e W' h => ?_
  cases e with
  | returned cv =>
    obtain ⟨hg, hrep⟩ := h
    rw [he] at hrep
    obtain rfl : cv = .bool true := by
      cases hrep
      · rfl
      · rename_i hf _; cases hf
    have hb : Below W.heap.size W W' := ⟨hg.os, hg.tape, hg.output, hg.size, fun k hk => hg.block k hk (by simp)⟩
    have hfn := hs ds (hlen hA)
    refine ⟨_, rfl, post_below (pa := p) (pv := []) hW' ?_ ?_ ?_ rfl hb ?_⟩
    · intro b sp hd
      rw [List.append_nil, hfn, hres]
      exact trodAll_cons_mk (shut_bool htb _) trodAll_mk0
    · intro sp hsp
      rw [List.append_nil, hfn]
      exact stays_all hl hr hb hA (fun x hx => hlt x (by simp [hx])) (fun x hx => hsp x (by simp [hx]))
    · intro sp hsp
      rw [List.append_nil, hfn, hv]
      rfl
    · exact ok_one hres rfl (okWide_bool_mk htb _)
  | _ => exact h.elim
end
end
end Go.Proofs.YtgjncgiekniniaaGreatDoor.A
end
