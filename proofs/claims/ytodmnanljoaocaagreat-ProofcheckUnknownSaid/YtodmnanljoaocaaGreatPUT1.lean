/-
  ProofcheckUnknown, for every input: the law returns true and leaves its arguments as they were. No condition.
-/
import Derived.Test.YtodmnanljoaocaaGreatPU20
import Derived.Test.YtodmnanljoaocaaGreatRows

set_option maxRecDepth 100000
set_option maxHeartbeats 8000000
set_option linter.unusedVariables false
set_option linter.unusedSimpArgs false
namespace Go.Proofs.YtodmnanljoaocaaGreat.proofcheckUnknown
open Go.ChangeShapes Go.WideShapes Go.ChangeAt Go.RowKit
open Go.ChangeMaps (open_string shut_string)

theorem own:ownKnob Tryz.prog.godebug=none:=by kernel_rfl
theorem laidOut:laidOutB Tryz.prog=true:=by kernel_rfl
theorem lifted (os:Os) (started:os.Started) (H:Type) (enc:TypeId × Value -> H) :
  ReturnsInHanded {} Tryz.checked os 4 .any (Rows.proofcheckUnknownSpec.pre6 enc Tryz.prog Tryz.f4 Rows.proofcheckUnknownRow.domain false) (Rows.proofcheckUnknownSpec.post enc Tryz.prog Tryz.f4 false true false false):=by
 refine returnsInHanded_of_change (C:=Tryz.checked) own started zK Tryz.func4
  (ChangeSpec.witness6 (enc:=enc) (C:=Tryz.checked) false ⟨#[],#[.agg #[.int .u64 0, .int .i64 0, .int .i64 0, .slice none 0 0, .int .i64 0, .int .i64 0, .int .i64 0, .slice none 0 0, .int .u64 0, .bool false, .int .u64 0], .slice none 0 0, .agg #[.int .u64 0, .slice none 0 0, .slice none 0 0, .slice none 0 0, .slice none 0 0, .slice none 0 0, .slice none 0 0]],[]⟩ 12 zK zK zK zK) ?_
 intro W base args ds gs before Q2 hW hcnd _;have ZQ:∀ (j:Nat) t v,Tryz.f4.params[j]?=some t -> args[j]?=some v -> Value.okWide Tryz.prog W .any base t v:=Q2;have hW':=hW;obtain ⟨p,q,hA0,hV,rfl,hfz,dK⟩:=hW;have hA:DataW.TrodAll enc Tryz.prog W 0 (fun _=>true) true Tryz.f4.params.toList args.toList ds p:=hA0
 rw [Tryz.params4] at hA ZQ;obtain ⟨v0,vs0,d0,ds0,p0,q0,hargs,rfl,rfl,h0,r0⟩:=trodAll_cons hA;obtain ⟨v1,vs1,d1,ds1,p1,q1,rfl,rfl,rfl,h1,r1⟩:=trodAll_cons r0;obtain ⟨v2,vs2,d2,ds2,p2,q2,rfl,rfl,rfl,h2,r2⟩:=trodAll_cons r1;obtain ⟨rfl,rfl,rfl⟩:=trodAll_nil r2;obtain rfl:args=#[v0,v1,v2]:=by cases args;simp_all
 obtain ⟨rfl,rfl⟩:=trodVars_none hV;have lt0:∀ x∈p0,x.block<W.heap.size:=by obtain ⟨m,hm⟩:=h0;exact DataW.trod_lt m _ _ _ hm
 have k0:=h0;have lt1:∀ x∈p1,x.block<W.heap.size:=by obtain ⟨m,hm⟩:=h1;exact DataW.trod_lt m _ _ _ hm
 have k1:=h1;have lt2:∀ x∈p2,x.block<W.heap.size:=by obtain ⟨m,hm⟩:=h2;exact DataW.trod_lt m _ _ _ hm
 have k2:=h2;obtain ⟨Zg,rfl,z0⟩:=okWide_struct Tryz.underlying63 (ZQ 0 63 v0 rfl rfl);obtain ⟨A1,n1,c1,rfl⟩:=okWide_slice Bz (ZQ 1 28 v1 rfl rfl);obtain ⟨Hc,rfl,z2⟩:=okWide_struct Tryz.underlying47 (ZQ 2 47 v2 rfl rfl);clear hA0 Q2;refine (zFY W Zg (Fits.of_trod k0) A1 n1 c1 (Fits.of_trod k1) Hc (Fits.of_trod k2)).mono fun e W' ⟨he,bel⟩=>?_
 subst he;exact ⟨_,rfl,_,_,_,[],_,[],hW',trodAll_mk1 (shut_bool Tryz.underlying4 _),(trodAll_cons_mk (Below.trod laidOut zK (of_decide_eq_true zK) k0 bel lt0) (trodAll_cons_mk (Below.trod laidOut zK (of_decide_eq_true zK) k1 bel lt1) (trodAll_cons_mk (Below.trod laidOut zK (of_decide_eq_true zK) k2 bel lt2) trodAll_mk0))),rfl,bel.frame _,fun h=>by cases h⟩
theorem j1:(Rows.proofcheckUnknownRow.wf (OpenSpec.ofChange Rows.proofcheckUnknownSpec))=true:=by kernel_rfl
theorem j2:(laidOutB Tryz.pinned.checked.prog)=true:=by kernel_rfl
theorem j3:(mapsRowed Tryz.pinned.checked.prog)=true:=by kernel_rfl
theorem j4:(Tryz.f4.params.all (Tryz.pinned.checked.prog.readableRec ·))=true:=by kernel_rfl
theorem j5:(namedTie Tryz.pinned.checked.prog Rows.proofcheckUnknownRow.named Rows.proofcheckUnknownSpec.vars)=true:=by kernel_rfl
theorem j6:((Rows.proofcheckUnknownRow.stops == []))=true:=by kernel_rfl
theorem j7:((Tryz.pinned.checked.prog.stops == []))=true:=by kernel_rfl
theorem j8:((Rows.proofcheckUnknownRow.knobs == []))=true:=by kernel_rfl
theorem j9:((Tryz.pinned.checked.prog.stopKnobs == []))=true:=by kernel_rfl
theorem j10:((Rows.proofcheckUnknownRow.inPlace == Tryz.pinned.checked.prog.inPlace 4))=true:=by kernel_rfl
theorem j11:((Rows.proofcheckUnknownRow.unfollowed == Tryz.pinned.checked.prog.unfollowed 4))=true:=by kernel_rfl
theorem j12:((Rows.proofcheckUnknownRow.recurses == Tryz.pinned.checked.prog.recurses 4))=true:=by kernel_rfl
theorem j13:((Rows.proofcheckUnknownRow.named == Tryz.pinned.checked.prog.varsNamed 4))=true:=by kernel_rfl
theorem j14:((Rows.proofcheckUnknownRow.maps == (Tryz.f4.params.toList++Rows.proofcheckUnknownSpec.plain.varTypes Tryz.pinned.checked.prog).any (Tryz.pinned.checked.prog.mapsRec ·)))=true:=by kernel_rfl
theorem j15:((Rows.proofcheckUnknownRow.ifaces == (Tryz.f4.params.toList++Rows.proofcheckUnknownSpec.plain.varTypes Tryz.pinned.checked.prog).any (Tryz.pinned.checked.prog.ifacesRec ·)))=true:=by kernel_rfl
theorem j16:((Rows.proofcheckUnknownRow.mapsOut == Tryz.pinned.checked.prog.mapsAmong Tryz.f4.resultTypes.toList))=true:=by kernel_rfl
theorem j17:((Rows.proofcheckUnknownRow.loops == (Tryz.f4.params.toList++Rows.proofcheckUnknownSpec.plain.varTypes Tryz.pinned.checked.prog).any (Tryz.pinned.checked.prog.loopsFrom ·)))=true:=by kernel_rfl
theorem j18:((Rows.proofcheckUnknownRow.wideKeys == (Tryz.f4.params.toList++Rows.proofcheckUnknownSpec.plain.varTypes Tryz.pinned.checked.prog++Tryz.f4.resultTypes.toList).any (Tryz.pinned.checked.prog.wideKeysFrom ·)))=true:=by kernel_rfl
theorem j19:(Rows.proofcheckUnknownSpec.vars.all (Tryz.pinned.checked.prog.varReadable ·))=true:=by kernel_rfl
theorem j20:(Tryz.f4.resultTypes.all (fun t=>Tryz.pinned.checked.prog.readableRec t&&decide (t<Tryz.pinned.checked.prog.types.size)))=true:=by kernel_rfl
theorem j21:((Rows.proofcheckUnknownRow.ifacesOut == Tryz.f4.resultTypes.toList.any (Tryz.pinned.checked.prog.ifacesRec ·)))=true:=by kernel_rfl
theorem j22:((Rows.proofcheckUnknownRow.loopsOut == Tryz.f4.resultTypes.toList.any (Tryz.pinned.checked.prog.loopsFrom ·)))=true:=by kernel_rfl
theorem j23:((Rows.proofcheckUnknownRow.plainKeys == Tryz.pinned.checked.prog.plainKeys))=true:=by kernel_rfl
theorem j24:(Rows.proofcheckUnknownRow.shortTexts.isNone)=true:=by kernel_rfl
theorem j25:(Tryz.pinned.checked.prog.stopsHeard)=true:=by kernel_rfl
theorem j26:(Tryz.pinned.checked.prog.mayEnter)=true:=by kernel_rfl
theorem j27:((Rows.proofcheckUnknownRow.lifted == Tryz.pinned.checked.prog.liftsFinal))=true:=by kernel_rfl
theorem j28:((Tryz.pinned.checked.prog.make == some Rows.proofcheckUnknownRow.make))=true:=by kernel_rfl
theorem j29:((Rows.proofcheckUnknownRow.kinds == (if Rows.proofcheckUnknownRow.domain.isEmpty then [] else Tryz.f4.params.toList.map fun t=>match Tryz.pinned.checked.prog.underlying t with | some (.int k)=>some k | _=>none)))=true:=by kernel_rfl
theorem j30:((Rows.proofcheckUnknownRow.pinned == Rows.proofcheckUnknownRow.pinnedBy))=true:=by kernel_rfl
theorem j31:((Rows.proofcheckUnknownRow.veiled == (Tryz.f4.params.toList++Rows.proofcheckUnknownSpec.plain.varTypes Tryz.pinned.checked.prog++Tryz.f4.resultTypes.toList).any (Tryz.pinned.checked.prog.veiledRec ·)))=true:=by kernel_rfl
theorem j32:(Rows.proofcheckUnknownRow.veiledFits Tryz.pinned.checked.prog Tryz.f4.params.toList (Tryz.f4.params.toList++Rows.proofcheckUnknownSpec.plain.varTypes Tryz.pinned.checked.prog++Tryz.f4.resultTypes.toList))=true:=by kernel_rfl
theorem over:Rows.proofcheckUnknownRow.holds Tryz.pinned (OpenSpec.ofChange Rows.proofcheckUnknownSpec) :=
 OpenClaim.holds_of_wide 4 Tryz.f4 rfl rfl rfl rfl rfl rfl rfl ⟨rfl,rfl,rfl,rfl,rfl⟩ rfl rfl rfl rfl rfl zK Tryz.func4 (zDG j1 j2 j3 j4 j5 j6 j7 j8 j9 j10 j11 j12 j13 j14 j15 j16 j17 j18 j19 j20 j21 j22 j23 j24 j25 j26 j27 j28 j29 j30 j31 j32)
  (of_decide_eq_true zK) (by unfold Func.isWrapper;first | (rw [Gb (by decide +kernel)];kernel_rfl) | (rw [mb (by decide +kernel)];exact ⟨rfl,rfl⟩))
  (fun os started H enc _=>lifted os started H enc)
theorem proved:Rows.ProofcheckUnknownSaid:=over
#print axioms proved
end Go.Proofs.YtodmnanljoaocaaGreat.proofcheckUnknown
