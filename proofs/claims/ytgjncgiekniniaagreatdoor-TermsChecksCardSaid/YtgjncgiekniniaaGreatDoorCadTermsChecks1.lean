/- TermsChecks: part 1 of what is its own. -/
import Derived.Test.YtgjncgiekniniaaGreatDoorCadTermsChecks0
import Derived.Deep.DeepHandedRow
import Derived.Lib.LaidTab
set_option linter.unusedVariables false
set_option linter.unusedSimpArgs false
section
set_option linter.unusedVariables false
namespace Go.Proofs.YtgjncgiekniniaaGreatDoor.A
open Go
namespace TermsChecks
theorem law (a0:List UInt8) (a1:List UInt8) (a2:Int) (a3:Int) (a4:Int) (a5:Int) (a6:Int) (a7:Int) (a8:Int) (a9:Int) (a10:Int) (a11:Int) (a12:Int) (a13:Int) (a14:Int) (a15:Int) (a16:Int) (a17:Int) (a18:Int) (a19:Int) (a20:Int) (a21:Int) (a22:Int) (a23:Int) (h0:a0.length<=maxLen) (h1:a1.length<=maxLen) (h2:(Lit.int .i64 a2).wf=true) (h3:(Lit.int .i64 a3).wf=true) (h4:(Lit.int .i64 a4).wf=true) (h5:(Lit.int .i64 a5).wf=true) (h6:(Lit.int .i64 a6).wf=true) (h7:(Lit.int .i64 a7).wf=true) (h8:(Lit.int .i64 a8).wf=true) (h9:(Lit.int .i64 a9).wf=true) (h10:(Lit.int .u64 a10).wf=true) (h11:(Lit.int .u16 a11).wf=true) (h12:(Lit.int .u32 a12).wf=true) (h13:(Lit.int .u8 a13).wf=true) (h14:(Lit.int .u8 a14).wf=true) (h15:(Lit.int .u8 a15).wf=true) (h16:(Lit.int .u8 a16).wf=true) (h17:(Lit.int .u8 a17).wf=true) (h18:(Lit.int .u8 a18).wf=true) (h19:(Lit.int .i64 a19).wf=true) (h20:(Lit.int .i64 a20).wf=true) (h21:(Lit.int .i64 a21).wf=true) (h22:(Lit.int .u8 a22).wf=true) (h23:(Lit.int .i64 a23).wf=true):z141.F a0 a1 a2 a3 a4 a5 a6 a7 a8 a9 a10 a11 a12 a13 a14 a15 a16 a17 a18 a19 a20 a21 a22 a23=some true:=
 Qw7 h10 h11 h12 h13 h14 h15 h16 h17 h18
end TermsChecks
end Go.Proofs.YtgjncgiekniniaaGreatDoor.A
end
section
set_option maxRecDepth 100000
namespace Go.Proofs.YtgjncgiekniniaaGreatDoor.A
open Go Go.RowKit Go.ChangeShapes Go.WideShapes Go.ChangeAt
noncomputable section
namespace TermsChecks
theorem wide:Q4f Tryz.prog 8 Tryz.f6.params.toList=some [(.agg [.sc .s,.sc .s,.sc (.i .i64),.sc (.i .i64),.sc (.i .i64),.sc (.i .i64),.sc (.i .i64),.sc (.i .i64),.sc (.i .i64),.sc (.i .i64),.sc (.i .u64),.sc (.i .u16),.sc (.i .u32),.sc (.i .u8),.sc (.i .u8),.sc (.i .u8),.sc (.i .u8),.sc (.i .u8),.sc (.i .u8),.sc (.i .i64),.sc (.i .i64),.sc (.i .i64),.sc (.i .u8),.sc (.i .i64)])]:=by kernel_rfl
theorem readable:Tryz.f6.params.toList.all (λt=>Tryz.prog.readableRec t&&decide (t<Tryz.prog.types.size))=true:=by kernel_rfl
noncomputable def args0:Array Value:=#[.agg #[.string ⟨#[]⟩,.string ⟨#[]⟩,.int .i64 0,.int .i64 0,.int .i64 0,.int .i64 0,.int .i64 0,.int .i64 0,.int .i64 0,.int .i64 0,.int .u64 0,.int .u16 0,.int .u32 0,.int .u8 0,.int .u8 0,.int .u8 0,.int .u8 0,.int .u8 0,.int .u8 0,.int .i64 0,.int .i64 0,.int .i64 0,.int .u8 0,.int .i64 0]]
theorem laid_met (os:Os):laidMet Tryz.prog Rows.termsChecksRow.laid ((Q4e os).forCall (λ_ _=>0) ⟨#[],args0,[]⟩).memory:=
 laidMet_of_run' 12 (by kernel_rfl) (by kernel_rfl)
theorem reads (os:Os) {H:Type} (enc:TypeId×Value->H):∃ds places,DataW.whole enc Tryz.prog ((Q4e os).forCall (λ_ _=>0) ⟨#[],args0,[]⟩).memory Tryz.f6.params.toList Rows.termsChecksSpec.vars false args0.toList 12=some (ds,[],places):=
 ⟨[.agg [.agg [.lit (.string []),.lit (.string []),.lit (.int .i64 0),.lit (.int .i64 0),.lit (.int .i64 0),.agg [.lit (.int .i64 0),.lit (.int .i64 0),.lit (.int .i64 0)],.lit (.int .i64 0),.lit (.int .i64 0)],.agg [.lit (.int .u64 0),.lit (.int .u16 0),.lit (.int .u32 0),.lit (.int .u8 0),.lit (.int .u8 0),.lit (.int .u8 0),.lit (.int .u8 0),.lit (.int .u8 0),.lit (.int .u8 0),.agg [.lit (.int .i64 0),.lit (.int .i64 0),.lit (.int .i64 0)]],.lit (.int .u8 0),.lit (.int .i64 0)]],[],by kernel_rfl⟩
theorem plainly (vs:List V) (h:okAL [(.agg [.sc .s,.sc .s,.sc (.i .i64),.sc (.i .i64),.sc (.i .i64),.sc (.i .i64),.sc (.i .i64),.sc (.i .i64),.sc (.i .i64),.sc (.i .i64),.sc (.i .u64),.sc (.i .u16),.sc (.i .u32),.sc (.i .u8),.sc (.i .u8),.sc (.i .u8),.sc (.i .u8),.sc (.i .u8),.sc (.i .u8),.sc (.i .i64),.sc (.i .i64),.sc (.i .i64),.sc (.i .u8),.sc (.i .i64)])] vs):∃p r,SoundC Tryz.prog 6 vs p/\p.m=some r/\p.enc r=.bool true:=by
 obtain ⟨_,_,rfl,⟨_,rfl,_,_,rfl,⟨a0,rfl,h0⟩,_,_,rfl,⟨a1,rfl,h1⟩,_,_,rfl,⟨a2,rfl,h2⟩,_,_,rfl,⟨a3,rfl,h3⟩,_,_,rfl,⟨a4,rfl,h4⟩,_,_,rfl,⟨a5,rfl,h5⟩,_,_,rfl,⟨a6,rfl,h6⟩,_,_,rfl,⟨a7,rfl,h7⟩,_,_,rfl,⟨a8,rfl,h8⟩,_,_,rfl,⟨a9,rfl,h9⟩,_,_,rfl,⟨a10,rfl,h10⟩,_,_,rfl,⟨a11,rfl,h11⟩,_,_,rfl,⟨a12,rfl,h12⟩,_,_,rfl,⟨a13,rfl,h13⟩,_,_,rfl,⟨a14,rfl,h14⟩,_,_,rfl,⟨a15,rfl,h15⟩,_,_,rfl,⟨a16,rfl,h16⟩,_,_,rfl,⟨a17,rfl,h17⟩,_,_,rfl,⟨a18,rfl,h18⟩,_,_,rfl,⟨a19,rfl,h19⟩,_,_,rfl,⟨a20,rfl,h20⟩,_,_,rfl,⟨a21,rfl,h21⟩,_,_,rfl,⟨a22,rfl,h22⟩,_,_,rfl,⟨a23,rfl,h23⟩,rfl⟩,rfl⟩:=h
 exact ⟨⟨Bool,z141.F a0 a1 a2 a3 a4 a5 a6 a7 a8 a9 a10 a11 a12 a13 a14 a15 a16 a17 a18 a19 a20 a21 a22 a23,z141.enc⟩,true,z141.sound _ _ (by kernel_rfl),law a0 a1 a2 a3 a4 a5 a6 a7 a8 a9 a10 a11 a12 a13 a14 a15 a16 a17 a18 a19 a20 a21 a22 a23 h0 h1 h2 h3 h4 h5 h6 h7 h8 h9 h10 h11 h12 h13 h14 h15 h16 h17 h18 h19 h20 h21 h22 h23,rfl⟩
theorem specFn {H:Type} (ds:List (DataW H)) (h:ds.length=Tryz.f6.params.toList.length):Rows.termsChecksSpec.fn H ds={results:=[.lit (.bool true)],args:=ds}:=by
 have h:ds.length=1:=h.trans (by kernel_rfl)
 match ds,h with
 |[d0],_=>rfl
theorem clos:Tryz.prog.closure 6=[6,43,95,153,219,60,152,113,131,208,234,235,26,102,132,40,38,118,160,223,260,198,248,275,283,290,284,285,286,291,199,200,250,249,251,253,276,252,255,279,289,277,287,278,288,292,293,254,201,161,158,222,185,164,227,268,183,99,184,91,104,69,119,202,120,28,121,203,204,195,247,156,74,90,110,24,100,186,146,212,245,273,187,122,123,176,92,163,226,162,188,224,261,262,280,225,263,264,265,266,267,281,68,124,157,130,36,76,114,46,137,136,41,25,101,189,190,246,274,191,44,133,47,209,228,257,149,214,215,134,142,210,258,259,45,37,115,196,103,192,116,117,63,35,85,170,171,172,197,39,125,205,206,256,221,126,127,128,207,129,80,135]:=by kernel_rfl
theorem inPlace:(Rows.termsChecksRow.inPlace == Tryz.prog.inPlace 6)=true:=by unfold Program.inPlace;rw [clos];kernel_rfl
theorem unfollowed:(Rows.termsChecksRow.unfollowed == Tryz.prog.unfollowed 6)=true:=by unfold Program.unfollowed;rw [clos];kernel_rfl
theorem recurses:(Rows.termsChecksRow.recurses == Tryz.prog.recurses 6)=true:=by unfold Program.recurses Program.unfollowed;rw [clos];kernel_rfl
theorem named:(Rows.termsChecksRow.named == Tryz.prog.varsNamed 6)=true:=by unfold Program.varsNamed;rw [clos];kernel_rfl
theorem number:Tryz.prog.funcNamed "chattel/chattellaw14.TermsChecks" = some 6:=by kernel_rfl
theorem goes:false=Rows.termsChecksRow.goesBy Tryz.prog:=by
 have h:Tryz.prog.goes 6=false:=by unfold Program.goes Program.unfollowed;rw [clos];kernel_rfl
 have e:Rows.termsChecksRow.goesBy Tryz.prog=((Tryz.prog.funcNamed "chattel/chattellaw14.TermsChecks").any Tryz.prog.goes||false):=by kernel_rfl
 rw [e,number]
 simp [h]
theorem j_wf:Rows.termsChecksRow.wf (OpenSpec.ofChange (OpenSpec.ofChange Rows.termsChecksSpec).bare)=true:=by kernel_rfl
theorem j_params:(Tryz.f6.params.all (Tryz.pinned.checked.prog.readableRec ·))=true:=by kernel_rfl
theorem j_vars:namedTie Tryz.pinned.checked.prog Rows.termsChecksRow.named (OpenSpec.ofChange Rows.termsChecksSpec).bare.vars=true:=by kernel_rfl
theorem j_stops:(Rows.termsChecksRow.stops == [])=true:=by kernel_rfl
theorem j_knobs:(Rows.termsChecksRow.knobs == [])=true:=by kernel_rfl
theorem j_maps:(Rows.termsChecksRow.maps == (Tryz.f6.params.toList++DataSpec.varTypes Tryz.pinned.checked.prog (OpenSpec.ofChange Rows.termsChecksSpec).bare.plain).any (Tryz.pinned.checked.prog.mapsRec ·))=true:=by kernel_rfl
theorem j_ifaces:(Rows.termsChecksRow.ifaces == (Tryz.f6.params.toList++DataSpec.varTypes Tryz.pinned.checked.prog (OpenSpec.ofChange Rows.termsChecksSpec).bare.plain).any (Tryz.pinned.checked.prog.ifacesRec ·))=true:=by kernel_rfl
theorem j_mapsOut:(Rows.termsChecksRow.mapsOut == Tryz.pinned.checked.prog.mapsAmong Tryz.f6.resultTypes.toList)=true:=by kernel_rfl
theorem j_loops:(Rows.termsChecksRow.loops == (Tryz.f6.params.toList++DataSpec.varTypes Tryz.pinned.checked.prog (OpenSpec.ofChange Rows.termsChecksSpec).bare.plain).any (Tryz.pinned.checked.prog.loopsFrom ·))=true:=by kernel_rfl
theorem j_wideKeys:(Rows.termsChecksRow.wideKeys == (Tryz.f6.params.toList++DataSpec.varTypes Tryz.pinned.checked.prog (OpenSpec.ofChange Rows.termsChecksSpec).bare.plain++Tryz.f6.resultTypes.toList).any (Tryz.pinned.checked.prog.wideKeysFrom ·))=true:=by kernel_rfl
theorem j_varsRead:(OpenSpec.ofChange Rows.termsChecksSpec).bare.vars.all (Tryz.pinned.checked.prog.varReadable ·)=true:=by kernel_rfl
theorem j_results:(Tryz.f6.resultTypes.all λt=>Tryz.pinned.checked.prog.readableRec t&&decide (t<Tryz.pinned.checked.prog.types.size))=true:=by kernel_rfl
theorem j_ifacesOut:(Rows.termsChecksRow.ifacesOut == Tryz.f6.resultTypes.toList.any (Tryz.pinned.checked.prog.ifacesRec ·))=true:=by kernel_rfl
theorem j_loopsOut:(Rows.termsChecksRow.loopsOut == Tryz.f6.resultTypes.toList.any (Tryz.pinned.checked.prog.loopsFrom ·))=true:=by kernel_rfl
theorem j_plainKeys:(Rows.termsChecksRow.plainKeys == Tryz.pinned.checked.prog.plainKeys)=true:=by kernel_rfl
theorem j_short:Rows.termsChecksRow.shortTexts.isNone=true:=by kernel_rfl
theorem j_lift:(Rows.termsChecksRow.lifted == Tryz.pinned.checked.prog.liftsFinal)=true:=by kernel_rfl
theorem j_make:(Tryz.pinned.checked.prog.make == some Rows.termsChecksRow.make)=true:=by kernel_rfl
theorem j_kinds:(Rows.termsChecksRow.kinds == (if Rows.termsChecksRow.domain.isEmpty then [] else Tryz.f6.params.toList.map λt=>match Tryz.pinned.checked.prog.underlying t with|some (.int k)=>some k|_=>none))=true:=by kernel_rfl
theorem j_pinned:(Rows.termsChecksRow.pinned == Rows.termsChecksRow.pinnedBy)=true:=by kernel_rfl
theorem j_veiled:(Rows.termsChecksRow.veiled == (Tryz.f6.params.toList++DataSpec.varTypes Tryz.pinned.checked.prog (OpenSpec.ofChange Rows.termsChecksSpec).bare.plain++Tryz.f6.resultTypes.toList).any (Tryz.pinned.checked.prog.veiledRec ·))=true:=by kernel_rfl
theorem j_veiledFits:Rows.termsChecksRow.veiledFits Tryz.pinned.checked.prog Tryz.f6.params.toList (Tryz.f6.params.toList++DataSpec.varTypes Tryz.pinned.checked.prog (OpenSpec.ofChange Rows.termsChecksSpec).bare.plain++Tryz.f6.resultTypes.toList)=true:=by kernel_rfl
theorem joined:joinedFacts Tryz.pinned.checked.prog 6 Tryz.f6 (OpenSpec.ofChange Rows.termsChecksSpec).bare Rows.termsChecksRow=true:=by
 unfold joinedFacts
 simp only [Bool.and_eq_true]
 and_intros
 ·exact j_wf
 ·exact laidOut
 ·exact rowed
 ·exact j_params
 ·exact j_vars
 ·exact j_stops
 ·exact Q4j
 ·exact j_knobs
 ·exact Q4l
 ·exact inPlace
 ·exact unfollowed
 ·exact recurses
 ·exact named
 ·exact j_maps
 ·exact j_ifaces
 ·exact j_mapsOut
 ·exact j_loops
 ·exact j_wideKeys
 ·exact j_varsRead
 ·exact j_results
 ·exact j_ifacesOut
 ·exact j_loopsOut
 ·exact j_plainKeys
 ·exact j_short
 ·exact Q4g
 ·exact Q4k
 ·exact j_lift
 ·exact j_make
 ·exact j_kinds
 ·exact j_pinned
 ·exact j_veiled
 ·exact j_veiledFits
theorem lifted (os:Os) (started:os.Started) (H:Type) (enc:TypeId×Value->H) (F:Stop.Interp) :
  ReturnsInHanded {} Tryz.checked os 6 .any ((OpenSpec.ofChange Rows.termsChecksSpec).preRow enc Tryz.prog Tryz.f6 Rows.termsChecksRow.domain false Rows.termsChecksRow.laid) (((OpenSpec.ofChange Rows.termsChecksSpec).at F).post enc Tryz.prog Tryz.f6 false true false false):=by
 obtain ⟨ds0,places,hx⟩:=reads os enc
 refine returnsInHanded_of_row (C:=Tryz.checked) (s:=OpenSpec.ofChange Rows.termsChecksSpec) own started (by kernel_rfl) Tryz.func6
  (witness_row_at (enc:=enc) (C:=Tryz.checked) false (Q4e os) args0 rfl (by kernel_rfl) (by kernel_rfl) (by kernel_rfl)
   (OpenSpec.preRow_of_cond 12 hx (by kernel_rfl) (λk hk=>by cases hk) (by kernel_rfl) (laid_met os))) ?_
 intro W base args ds gs before hval hW _ _ _ hL _ _
 exact Q4h fun6 laidOut readable wide (tb:=4) (by kernel_rfl) (by kernel_rfl) rfl specFn plainly W base args ds gs before hval hW
theorem wrapped:Tryz.f6.isWrapper Tryz.pinned.checked.prog Rows.termsChecksRow.wrapper Rows.termsChecksRow.mainSum:=by
 unfold Func.isWrapper;first|(rw [if_pos (by decide +kernel)];kernel_rfl)|(rw [if_neg (by decide +kernel)];exact ⟨rfl,rfl⟩)
theorem origin:Tryz.f6.isInstance Tryz.pinned.checked.prog Rows.termsChecksRow.origin Rows.termsChecksRow.targs:=of_decide_eq_true (by kernel_rfl)
theorem said:Rows.TermsChecksSaid:=
 OpenClaim.holds_of_cond 6 Tryz.f6 rfl rfl rfl rfl rfl rfl rfl ⟨rfl,rfl,rfl,rfl,rfl⟩ rfl rfl rfl rfl rfl number Tryz.func6 joined origin wrapped
  (λos started H enc _ F=>by rw [OpenClaim.pre_eq_preRow];exact lifted os started H enc F)
theorem plainRow (f:FuncId) (fn:Func) (hf:Tryz.pinned.checked.prog.funcNamed "chattel/chattellaw14.TermsChecks" = some f) (hfn:Tryz.pinned.checked.prog.funcs[f]? = some fn) :
  false=Tryz.pinned.checked.prog.looks []/\∀(j:Nat) t,fn.params[j]? = some t->Tryz.pinned.checked.prog.wantsStandIn t=false:=by
 obtain rfl:f=6:=Option.some.inj (number.symm.trans hf) |>.symm
 obtain rfl:fn=Tryz.f6:=(Option.some.inj (Tryz.func6.symm.trans hfn)).symm
 refine ⟨Q4m,λj t ht=>?_⟩
 have hall:Tryz.f6.params.toList.all (λt=>!Tryz.prog.wantsStandIn t)=true:=by kernel_rfl
 have:=List.all_eq_true.1 hall t (by simpa using Array.mem_of_getElem? ht)
 exact Bool.not_eq_true' _ |>.mp this
theorem card:Rows.TermsChecksCardSaid:=
 Claim7.holds_tied_plain_at .later [] _ _ _ _ said (λ_ h=>by cases h) (by kernel_rfl) (λ_ h=>by cases h) termsChecks_row_tie rfl ⟨rfl,rfl⟩ main rfl plainRow goes
end TermsChecks
end
end Go.Proofs.YtgjncgiekniniaaGreatDoor.A
end
