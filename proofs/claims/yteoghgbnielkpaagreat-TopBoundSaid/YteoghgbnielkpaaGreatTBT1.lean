/-
  TopBound, for every input: the law returns true and leaves its arguments as they were. No condition.
-/
import Derived.Test.YteoghgbnielkpaaGreatTB20
import Derived.Test.YteoghgbnielkpaaGreatRows

set_option maxRecDepth 100000
set_option maxHeartbeats 8000000
set_option linter.unusedVariables false
set_option linter.unusedSimpArgs false
namespace Go.Proofs.YteoghgbnielkpaaGreat.topBound
open Go.ChangeShapes Go.WideShapes Go.ChangeAt Go.RowKit
open Go.ChangeMaps (open_string shut_string)

theorem own:ownKnob Tryz.prog.godebug=none:=by kernel_rfl
theorem laidOut:laidOutB Tryz.prog=true:=by kernel_rfl
theorem lifted (os:Os) (started:os.Started) (H:Type) (enc:TypeId × Value -> H) :
  ReturnsInHanded {} Tryz.checked os 12 .any (Rows.topBoundSpec.pre6 enc Tryz.prog Tryz.f12 Rows.topBoundRow.domain false) (Rows.topBoundSpec.post enc Tryz.prog Tryz.f12 false true false false):=by
 refine returnsInHanded_of_change (C:=Tryz.checked) own started zK Tryz.func12
  (ChangeSpec.witness6 (enc:=enc) (C:=Tryz.checked) false ⟨#[],#[.agg #[.int .u64 0, .int .i64 0, .int .i64 0, .slice none 0 0, .int .i64 0, .int .i64 0, .int .i64 0, .slice none 0 0, .int .u64 0, .bool false, .int .u64 0], .int .u32 0, .int .u8 0],[]⟩ 12 zK zK zK zK) ?_
 intro W base args ds gs before P5 hW hcnd _;have nG:∀ (j:Nat) t v,Tryz.f12.params[j]?=some t -> args[j]?=some v -> Value.okWide Tryz.prog W .any base t v:=P5;have hW':=hW;obtain ⟨p,q,hA0,hV,rfl,OC,hnd⟩:=hW;have hA:DataW.TrodAll enc Tryz.prog W 0 (fun _=>true) true Tryz.f12.params.toList args.toList ds p:=hA0
 rw [Tryz.params12] at hA nG;obtain ⟨v0,vs0,d0,ds0,p0,q0,hargs,rfl,rfl,h0,r0⟩:=trodAll_cons hA;obtain ⟨v1,vs1,d1,ds1,p1,q1,rfl,rfl,rfl,h1,r1⟩:=trodAll_cons r0;obtain ⟨v2,vs2,d2,ds2,p2,q2,rfl,rfl,rfl,h2,r2⟩:=trodAll_cons r1;obtain ⟨rfl,rfl,rfl⟩:=trodAll_nil r2;obtain rfl:args=#[v0,v1,v2]:=by cases args;simp_all
 obtain ⟨rfl,rfl⟩:=trodVars_none hV;have lt0:∀ x∈p0,x.block<W.heap.size:=by obtain ⟨m,hm⟩:=h0;exact DataW.trod_lt m _ _ _ hm
 have k0:=h0;have lt1:∀ x∈p1,x.block<W.heap.size:=by obtain ⟨m,hm⟩:=h1;exact DataW.trod_lt m _ _ _ hm
 have k1:=h1;have lt2:∀ x∈p2,x.block<W.heap.size:=by obtain ⟨m,hm⟩:=h2;exact DataW.trod_lt m _ _ _ hm
 have k2:=h2;obtain ⟨Eh,rfl,z0⟩:=okWide_struct Tryz.underlying32 (nG 0 32 v0 rfl rfl);obtain ⟨a1,rfl,rfl,rfl,w1⟩:=open_int Tryz.underlying107 (nG 1 107 _ rfl rfl) h1;obtain ⟨a2,rfl,rfl,rfl,w2⟩:=open_int Tryz.underlying5 (nG 2 5 _ rfl rfl) h2;clear hA0 P5;refine (zJp W Eh (Fits.of_trod k0) a1 w1 a2 w2).mono fun e W' ⟨he,bel⟩=>?_
 subst he;exact ⟨_,rfl,_,_,_,[],_,[],hW',trodAll_mk1 (shut_bool Tryz.underlying4 _),(trodAll_cons_mk (Below.trod laidOut zK (of_decide_eq_true zK) k0 bel lt0) (trodAll_cons_mk (Below.trod laidOut zK (of_decide_eq_true zK) k1 bel lt1) (trodAll_cons_mk (Below.trod laidOut zK (of_decide_eq_true zK) k2 bel lt2) trodAll_mk0))),rfl,bel.frame _,fun h=>by cases h⟩
theorem j1:(Rows.topBoundRow.wf (OpenSpec.ofChange Rows.topBoundSpec))=true:=by kernel_rfl
theorem j2:(laidOutB Tryz.pinned.checked.prog)=true:=by kernel_rfl
theorem j3:(mapsRowed Tryz.pinned.checked.prog)=true:=by kernel_rfl
theorem j4:(Tryz.f12.params.all (Tryz.pinned.checked.prog.readableRec ·))=true:=by kernel_rfl
theorem j5:(namedTie Tryz.pinned.checked.prog Rows.topBoundRow.named Rows.topBoundSpec.vars)=true:=by kernel_rfl
theorem j6:((Rows.topBoundRow.stops == []))=true:=by kernel_rfl
theorem j7:((Tryz.pinned.checked.prog.stops == []))=true:=by kernel_rfl
theorem j8:((Rows.topBoundRow.knobs == []))=true:=by kernel_rfl
theorem j9:((Tryz.pinned.checked.prog.stopKnobs == []))=true:=by kernel_rfl
theorem j10:((Rows.topBoundRow.inPlace == Tryz.pinned.checked.prog.inPlace 12))=true:=by kernel_rfl
theorem j11:((Rows.topBoundRow.unfollowed == Tryz.pinned.checked.prog.unfollowed 12))=true:=by kernel_rfl
theorem j12:((Rows.topBoundRow.recurses == Tryz.pinned.checked.prog.recurses 12))=true:=by kernel_rfl
theorem j13:((Rows.topBoundRow.named == Tryz.pinned.checked.prog.varsNamed 12))=true:=by kernel_rfl
theorem j14:((Rows.topBoundRow.maps == (Tryz.f12.params.toList++Rows.topBoundSpec.plain.varTypes Tryz.pinned.checked.prog).any (Tryz.pinned.checked.prog.mapsRec ·)))=true:=by kernel_rfl
theorem j15:((Rows.topBoundRow.ifaces == (Tryz.f12.params.toList++Rows.topBoundSpec.plain.varTypes Tryz.pinned.checked.prog).any (Tryz.pinned.checked.prog.ifacesRec ·)))=true:=by kernel_rfl
theorem j16:((Rows.topBoundRow.mapsOut == Tryz.pinned.checked.prog.mapsAmong Tryz.f12.resultTypes.toList))=true:=by kernel_rfl
theorem j17:((Rows.topBoundRow.loops == (Tryz.f12.params.toList++Rows.topBoundSpec.plain.varTypes Tryz.pinned.checked.prog).any (Tryz.pinned.checked.prog.loopsFrom ·)))=true:=by kernel_rfl
theorem j18:((Rows.topBoundRow.wideKeys == (Tryz.f12.params.toList++Rows.topBoundSpec.plain.varTypes Tryz.pinned.checked.prog++Tryz.f12.resultTypes.toList).any (Tryz.pinned.checked.prog.wideKeysFrom ·)))=true:=by kernel_rfl
theorem j19:(Rows.topBoundSpec.vars.all (Tryz.pinned.checked.prog.varReadable ·))=true:=by kernel_rfl
theorem j20:(Tryz.f12.resultTypes.all (fun t=>Tryz.pinned.checked.prog.readableRec t&&decide (t<Tryz.pinned.checked.prog.types.size)))=true:=by kernel_rfl
theorem j21:((Rows.topBoundRow.ifacesOut == Tryz.f12.resultTypes.toList.any (Tryz.pinned.checked.prog.ifacesRec ·)))=true:=by kernel_rfl
theorem j22:((Rows.topBoundRow.loopsOut == Tryz.f12.resultTypes.toList.any (Tryz.pinned.checked.prog.loopsFrom ·)))=true:=by kernel_rfl
theorem j23:((Rows.topBoundRow.plainKeys == Tryz.pinned.checked.prog.plainKeys))=true:=by kernel_rfl
theorem j24:(Rows.topBoundRow.shortTexts.isNone)=true:=by kernel_rfl
theorem j25:(Tryz.pinned.checked.prog.stopsHeard)=true:=by kernel_rfl
theorem j26:(Tryz.pinned.checked.prog.mayEnter)=true:=by kernel_rfl
theorem j27:((Rows.topBoundRow.lifted == Tryz.pinned.checked.prog.liftsFinal))=true:=by kernel_rfl
theorem j28:((Tryz.pinned.checked.prog.make == some Rows.topBoundRow.make))=true:=by kernel_rfl
theorem j29:((Rows.topBoundRow.kinds == (if Rows.topBoundRow.domain.isEmpty then [] else Tryz.f12.params.toList.map fun t=>match Tryz.pinned.checked.prog.underlying t with | some (.int k)=>some k | _=>none)))=true:=by kernel_rfl
theorem j30:((Rows.topBoundRow.pinned == Rows.topBoundRow.pinnedBy))=true:=by kernel_rfl
theorem j31:((Rows.topBoundRow.veiled == (Tryz.f12.params.toList++Rows.topBoundSpec.plain.varTypes Tryz.pinned.checked.prog++Tryz.f12.resultTypes.toList).any (Tryz.pinned.checked.prog.veiledRec ·)))=true:=by kernel_rfl
theorem j32:(Rows.topBoundRow.veiledFits Tryz.pinned.checked.prog Tryz.f12.params.toList (Tryz.f12.params.toList++Rows.topBoundSpec.plain.varTypes Tryz.pinned.checked.prog++Tryz.f12.resultTypes.toList))=true:=by kernel_rfl
theorem over:Rows.topBoundRow.holds Tryz.pinned (OpenSpec.ofChange Rows.topBoundSpec) :=
 OpenClaim.holds_of_wide 12 Tryz.f12 rfl rfl rfl rfl rfl rfl rfl ⟨rfl,rfl,rfl,rfl,rfl⟩ rfl rfl rfl rfl rfl zK Tryz.func12 (zFd j1 j2 j3 j4 j5 j6 j7 j8 j9 j10 j11 j12 j13 j14 j15 j16 j17 j18 j19 j20 j21 j22 j23 j24 j25 j26 j27 j28 j29 j30 j31 j32)
  (of_decide_eq_true zK) (by unfold Func.isWrapper;first | (rw [Ka (by decide +kernel)];kernel_rfl) | (rw [ya (by decide +kernel)];exact ⟨rfl,rfl⟩))
  (fun os started H enc _=>lifted os started H enc)
theorem proved:Rows.TopBoundSaid:=over
#print axioms proved
end Go.Proofs.YteoghgbnielkpaaGreat.topBound
