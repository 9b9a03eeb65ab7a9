/-
  TopComplete, for every input: the law returns true and leaves its arguments as they were. No condition.
-/
import Derived.Test.YteoghgbnielkpaaGreatTC20
import Derived.Test.YteoghgbnielkpaaGreatRows

set_option maxRecDepth 100000
set_option maxHeartbeats 8000000
set_option linter.unusedVariables false
set_option linter.unusedSimpArgs false
namespace Go.Proofs.YteoghgbnielkpaaGreat.topComplete
open Go.ChangeShapes Go.WideShapes Go.ChangeAt Go.RowKit
open Go.ChangeMaps (open_string shut_string)

theorem own:ownKnob Tryz.prog.godebug=none:=by kernel_rfl
theorem laidOut:laidOutB Tryz.prog=true:=by kernel_rfl
theorem lifted (os:Os) (started:os.Started) (H:Type) (enc:TypeId × Value -> H) :
  ReturnsInHanded {} Tryz.checked os 11 .any (Rows.topCompleteSpec.pre6 enc Tryz.prog Tryz.f11 Rows.topCompleteRow.domain false) (Rows.topCompleteSpec.post enc Tryz.prog Tryz.f11 false true false false):=by
 refine returnsInHanded_of_change (C:=Tryz.checked) own started (by kernel_rfl) Tryz.func11
  (ChangeSpec.witness6 (enc:=enc) (C:=Tryz.checked) false ⟨#[],#[.agg #[.int .u64 0, .int .i64 0, .int .i64 0, .slice none 0 0, .int .i64 0, .int .i64 0, .int .i64 0, .slice none 0 0, .int .u64 0, .bool false, .int .u64 0], .slice none 0 0],[]⟩ 12 (by kernel_rfl) (by kernel_rfl) (by kernel_rfl) (by kernel_rfl)) ?_
 intro W base args ds gs before R0 hW hcnd _;have GI:∀ (j:Nat) t v,Tryz.f11.params[j]?=some t -> args[j]?=some v -> Value.okWide Tryz.prog W .any base t v:=R0;have hW':=hW;obtain ⟨p,q,hA0,hV,rfl,YB,hnd⟩:=hW;have hA:DataW.TrodAll enc Tryz.prog W 0 (fun _=>true) true Tryz.f11.params.toList args.toList ds p:=hA0
 rw [Tryz.params11] at hA GI;obtain ⟨v0,vs0,d0,ds0,p0,q0,hargs,rfl,rfl,h0,r0⟩:=trodAll_cons hA;obtain ⟨v1,vs1,d1,ds1,p1,q1,rfl,rfl,rfl,h1,r1⟩:=trodAll_cons r0;obtain ⟨rfl,rfl,rfl⟩:=trodAll_nil r1;obtain rfl:args=#[v0,v1]:=by cases args;simp_all
 obtain ⟨rfl,rfl⟩:=trodVars_none hV;have lt0:∀ x∈p0,x.block<W.heap.size:=by obtain ⟨m,hm⟩:=h0;exact DataW.trod_lt m _ _ _ hm
 have k0:=h0;have lt1:∀ x∈p1,x.block<W.heap.size:=by obtain ⟨m,hm⟩:=h1;exact DataW.trod_lt m _ _ _ hm
 have k1:=h1;obtain ⟨kh,rfl,z0⟩:=okWide_struct Tryz.underlying32 (GI 0 32 v0 rfl rfl);obtain ⟨A1,n1,c1,rfl⟩:=okWide_slice Tryz.underlying28 (GI 1 28 v1 rfl rfl);clear hA0 R0;refine (zHV W kh (Fits.of_trod k0) A1 n1 c1 (Fits.of_trod k1)).mono fun e W' ⟨he,bel⟩=>?_
 subst he;exact ⟨_,rfl,_,_,_,[],_,[],hW',trodAll_mk1 (shut_bool Tryz.underlying4 _),(trodAll_cons_mk (Below.trod laidOut (by kernel_rfl) (of_decide_eq_true (by kernel_rfl)) k0 bel lt0) (trodAll_cons_mk (Below.trod laidOut (by kernel_rfl) (of_decide_eq_true (by kernel_rfl)) k1 bel lt1) trodAll_mk0)),rfl,bel.frame _,fun h=>by cases h⟩
theorem j1:(Rows.topCompleteRow.wf (OpenSpec.ofChange Rows.topCompleteSpec))=true:=by kernel_rfl
theorem j2:(laidOutB Tryz.pinned.checked.prog)=true:=by kernel_rfl
theorem j3:(mapsRowed Tryz.pinned.checked.prog)=true:=by kernel_rfl
theorem j4:(Tryz.f11.params.all (Tryz.pinned.checked.prog.readableRec ·))=true:=by kernel_rfl
theorem j5:(namedTie Tryz.pinned.checked.prog Rows.topCompleteRow.named Rows.topCompleteSpec.vars)=true:=by kernel_rfl
theorem j6:((Rows.topCompleteRow.stops == []))=true:=by kernel_rfl
theorem j7:((Tryz.pinned.checked.prog.stops == []))=true:=by kernel_rfl
theorem j8:((Rows.topCompleteRow.knobs == []))=true:=by kernel_rfl
theorem j9:((Tryz.pinned.checked.prog.stopKnobs == []))=true:=by kernel_rfl
theorem j10:((Rows.topCompleteRow.inPlace == Tryz.pinned.checked.prog.inPlace 11))=true:=by kernel_rfl
theorem j11:((Rows.topCompleteRow.unfollowed == Tryz.pinned.checked.prog.unfollowed 11))=true:=by kernel_rfl
theorem j12:((Rows.topCompleteRow.recurses == Tryz.pinned.checked.prog.recurses 11))=true:=by kernel_rfl
theorem j13:((Rows.topCompleteRow.named == Tryz.pinned.checked.prog.varsNamed 11))=true:=by kernel_rfl
theorem j14:((Rows.topCompleteRow.maps == (Tryz.f11.params.toList++Rows.topCompleteSpec.plain.varTypes Tryz.pinned.checked.prog).any (Tryz.pinned.checked.prog.mapsRec ·)))=true:=by kernel_rfl
theorem j15:((Rows.topCompleteRow.ifaces == (Tryz.f11.params.toList++Rows.topCompleteSpec.plain.varTypes Tryz.pinned.checked.prog).any (Tryz.pinned.checked.prog.ifacesRec ·)))=true:=by kernel_rfl
theorem j16:((Rows.topCompleteRow.mapsOut == Tryz.pinned.checked.prog.mapsAmong Tryz.f11.resultTypes.toList))=true:=by kernel_rfl
theorem j17:((Rows.topCompleteRow.loops == (Tryz.f11.params.toList++Rows.topCompleteSpec.plain.varTypes Tryz.pinned.checked.prog).any (Tryz.pinned.checked.prog.loopsFrom ·)))=true:=by kernel_rfl
theorem j18:((Rows.topCompleteRow.wideKeys == (Tryz.f11.params.toList++Rows.topCompleteSpec.plain.varTypes Tryz.pinned.checked.prog++Tryz.f11.resultTypes.toList).any (Tryz.pinned.checked.prog.wideKeysFrom ·)))=true:=by kernel_rfl
theorem j19:(Rows.topCompleteSpec.vars.all (Tryz.pinned.checked.prog.varReadable ·))=true:=by kernel_rfl
theorem j20:(Tryz.f11.resultTypes.all (fun t=>Tryz.pinned.checked.prog.readableRec t&&decide (t<Tryz.pinned.checked.prog.types.size)))=true:=by kernel_rfl
theorem j21:((Rows.topCompleteRow.ifacesOut == Tryz.f11.resultTypes.toList.any (Tryz.pinned.checked.prog.ifacesRec ·)))=true:=by kernel_rfl
theorem j22:((Rows.topCompleteRow.loopsOut == Tryz.f11.resultTypes.toList.any (Tryz.pinned.checked.prog.loopsFrom ·)))=true:=by kernel_rfl
theorem j23:((Rows.topCompleteRow.plainKeys == Tryz.pinned.checked.prog.plainKeys))=true:=by kernel_rfl
theorem j24:(Rows.topCompleteRow.shortTexts.isNone)=true:=by kernel_rfl
theorem j25:(Tryz.pinned.checked.prog.stopsHeard)=true:=by kernel_rfl
theorem j26:(Tryz.pinned.checked.prog.mayEnter)=true:=by kernel_rfl
theorem j27:((Rows.topCompleteRow.lifted == Tryz.pinned.checked.prog.liftsFinal))=true:=by kernel_rfl
theorem j28:((Tryz.pinned.checked.prog.make == some Rows.topCompleteRow.make))=true:=by kernel_rfl
theorem j29:((Rows.topCompleteRow.kinds == (if Rows.topCompleteRow.domain.isEmpty then [] else Tryz.f11.params.toList.map fun t=>match Tryz.pinned.checked.prog.underlying t with | some (.int k)=>some k | _=>none)))=true:=by kernel_rfl
theorem j30:((Rows.topCompleteRow.pinned == Rows.topCompleteRow.pinnedBy))=true:=by kernel_rfl
theorem j31:((Rows.topCompleteRow.veiled == (Tryz.f11.params.toList++Rows.topCompleteSpec.plain.varTypes Tryz.pinned.checked.prog++Tryz.f11.resultTypes.toList).any (Tryz.pinned.checked.prog.veiledRec ·)))=true:=by kernel_rfl
theorem j32:(Rows.topCompleteRow.veiledFits Tryz.pinned.checked.prog Tryz.f11.params.toList (Tryz.f11.params.toList++Rows.topCompleteSpec.plain.varTypes Tryz.pinned.checked.prog++Tryz.f11.resultTypes.toList))=true:=by kernel_rfl
theorem over:Rows.topCompleteRow.holds Tryz.pinned (OpenSpec.ofChange Rows.topCompleteSpec) :=
 OpenClaim.holds_of_wide 11 Tryz.f11 rfl rfl rfl rfl rfl rfl rfl ⟨rfl,rfl,rfl,rfl,rfl⟩ rfl rfl rfl rfl rfl (by kernel_rfl) Tryz.func11 (zDR j1 j2 j3 j4 j5 j6 j7 j8 j9 j10 j11 j12 j13 j14 j15 j16 j17 j18 j19 j20 j21 j22 j23 j24 j25 j26 j27 j28 j29 j30 j31 j32)
  (of_decide_eq_true (by kernel_rfl)) (by unfold Func.isWrapper;first | (rw [Na (by decide +kernel)];kernel_rfl) | (rw [ya (by decide +kernel)];exact ⟨rfl,rfl⟩))
  (fun os started H enc _=>lifted os started H enc)
theorem proved:Rows.TopCompleteSaid:=over
#print axioms proved
end Go.Proofs.YteoghgbnielkpaaGreat.topComplete
