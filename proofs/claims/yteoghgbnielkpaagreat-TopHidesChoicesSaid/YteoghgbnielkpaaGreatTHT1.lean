/-
  TopHidesChoices, for every input: the law returns true and leaves its arguments as they were. No condition.
-/
import Derived.Test.YteoghgbnielkpaaGreatTH20
import Derived.Test.YteoghgbnielkpaaGreatRows

set_option maxRecDepth 100000
set_option maxHeartbeats 8000000
set_option linter.unusedVariables false
set_option linter.unusedSimpArgs false
namespace Go.Proofs.YteoghgbnielkpaaGreat.topHidesChoices
open Go.ChangeShapes Go.WideShapes Go.ChangeAt Go.RowKit
open Go.ChangeMaps (open_string shut_string)

theorem own:ownKnob Tryz.prog.godebug=none:=by kernel_rfl
theorem laidOut:laidOutB Tryz.prog=true:=by kernel_rfl
theorem lifted (os:Os) (started:os.Started) (H:Type) (enc:TypeId × Value -> H) :
  ReturnsInHanded {} Tryz.checked os 3 .any (Rows.topHidesChoicesSpec.pre6 enc Tryz.prog Tryz.f3 Rows.topHidesChoicesRow.domain false) (Rows.topHidesChoicesSpec.post enc Tryz.prog Tryz.f3 false true false false):=by
 refine returnsInHanded_of_change (C:=Tryz.checked) own started (by kernel_rfl) Tryz.func3
  (ChangeSpec.witness6 (enc:=enc) (C:=Tryz.checked) false ⟨#[],#[.agg #[.int .u64 0, .int .i64 0, .int .i64 0, .slice none 0 0, .int .i64 0, .int .i64 0, .int .i64 0, .slice none 0 0, .int .u64 0, .bool false, .int .u64 0], .int .u64 0],[]⟩ 12 (by kernel_rfl) (by kernel_rfl) (by kernel_rfl) (by kernel_rfl)) ?_
 intro W base args ds gs before EY hW hcnd _;have aT:∀ (j:Nat) t v,Tryz.f3.params[j]?=some t -> args[j]?=some v -> Value.okWide Tryz.prog W .any base t v:=EY;have hW':=hW;obtain ⟨p,q,hA0,hV,rfl,hfz,hnd⟩:=hW;have hA:DataW.TrodAll enc Tryz.prog W 0 (fun _=>true) true Tryz.f3.params.toList args.toList ds p:=hA0
 rw [Tryz.params3] at hA aT;obtain ⟨v0,vs0,d0,ds0,p0,q0,hargs,rfl,rfl,h0,r0⟩:=trodAll_cons hA;obtain ⟨v1,vs1,d1,ds1,p1,q1,rfl,rfl,rfl,h1,r1⟩:=trodAll_cons r0;obtain ⟨rfl,rfl,rfl⟩:=trodAll_nil r1;obtain rfl:args=#[v0,v1]:=by cases args;simp_all
 obtain ⟨rfl,rfl⟩:=trodVars_none hV;have lt0:∀ x∈p0,x.block<W.heap.size:=by obtain ⟨m,hm⟩:=h0;exact DataW.trod_lt m _ _ _ hm
 have k0:=h0;have lt1:∀ x∈p1,x.block<W.heap.size:=by obtain ⟨m,hm⟩:=h1;exact DataW.trod_lt m _ _ _ hm
 have k1:=h1;obtain ⟨Zg,rfl,z0⟩:=okWide_struct Tryz.underlying32 (aT 0 32 v0 rfl rfl);obtain ⟨a1,rfl,rfl,rfl,w1⟩:=open_int Tryz.underlying22 (aT 1 22 _ rfl rfl) h1;clear hA0 EY;refine (zF9 W Zg (Fits.of_trod k0) a1 w1).mono fun e W' ⟨he,bel⟩=>?_
 subst he;exact ⟨_,rfl,_,_,_,[],_,[],hW',trodAll_mk1 (shut_bool Tryz.underlying4 _),(trodAll_cons_mk (Below.trod laidOut (by kernel_rfl) (of_decide_eq_true (by kernel_rfl)) k0 bel lt0) (trodAll_cons_mk (Below.trod laidOut (by kernel_rfl) (of_decide_eq_true (by kernel_rfl)) k1 bel lt1) trodAll_mk0)),rfl,bel.frame _,fun h=>by cases h⟩
theorem j1:(Rows.topHidesChoicesRow.wf (OpenSpec.ofChange Rows.topHidesChoicesSpec))=true:=by kernel_rfl
theorem j2:(laidOutB Tryz.pinned.checked.prog)=true:=by kernel_rfl
theorem j3:(mapsRowed Tryz.pinned.checked.prog)=true:=by kernel_rfl
theorem j4:(Tryz.f3.params.all (Tryz.pinned.checked.prog.readableRec ·))=true:=by kernel_rfl
theorem j5:(namedTie Tryz.pinned.checked.prog Rows.topHidesChoicesRow.named Rows.topHidesChoicesSpec.vars)=true:=by kernel_rfl
theorem j6:((Rows.topHidesChoicesRow.stops == []))=true:=by kernel_rfl
theorem j7:((Tryz.pinned.checked.prog.stops == []))=true:=by kernel_rfl
theorem j8:((Rows.topHidesChoicesRow.knobs == []))=true:=by kernel_rfl
theorem j9:((Tryz.pinned.checked.prog.stopKnobs == []))=true:=by kernel_rfl
theorem j10:((Rows.topHidesChoicesRow.inPlace == Tryz.pinned.checked.prog.inPlace 3))=true:=by kernel_rfl
theorem j11:((Rows.topHidesChoicesRow.unfollowed == Tryz.pinned.checked.prog.unfollowed 3))=true:=by kernel_rfl
theorem j12:((Rows.topHidesChoicesRow.recurses == Tryz.pinned.checked.prog.recurses 3))=true:=by kernel_rfl
theorem j13:((Rows.topHidesChoicesRow.named == Tryz.pinned.checked.prog.varsNamed 3))=true:=by kernel_rfl
theorem j14:((Rows.topHidesChoicesRow.maps == (Tryz.f3.params.toList++Rows.topHidesChoicesSpec.plain.varTypes Tryz.pinned.checked.prog).any (Tryz.pinned.checked.prog.mapsRec ·)))=true:=by kernel_rfl
theorem j15:((Rows.topHidesChoicesRow.ifaces == (Tryz.f3.params.toList++Rows.topHidesChoicesSpec.plain.varTypes Tryz.pinned.checked.prog).any (Tryz.pinned.checked.prog.ifacesRec ·)))=true:=by kernel_rfl
theorem j16:((Rows.topHidesChoicesRow.mapsOut == Tryz.pinned.checked.prog.mapsAmong Tryz.f3.resultTypes.toList))=true:=by kernel_rfl
theorem j17:((Rows.topHidesChoicesRow.loops == (Tryz.f3.params.toList++Rows.topHidesChoicesSpec.plain.varTypes Tryz.pinned.checked.prog).any (Tryz.pinned.checked.prog.loopsFrom ·)))=true:=by kernel_rfl
theorem j18:((Rows.topHidesChoicesRow.wideKeys == (Tryz.f3.params.toList++Rows.topHidesChoicesSpec.plain.varTypes Tryz.pinned.checked.prog++Tryz.f3.resultTypes.toList).any (Tryz.pinned.checked.prog.wideKeysFrom ·)))=true:=by kernel_rfl
theorem j19:(Rows.topHidesChoicesSpec.vars.all (Tryz.pinned.checked.prog.varReadable ·))=true:=by kernel_rfl
theorem j20:(Tryz.f3.resultTypes.all (fun t=>Tryz.pinned.checked.prog.readableRec t&&decide (t<Tryz.pinned.checked.prog.types.size)))=true:=by kernel_rfl
theorem j21:((Rows.topHidesChoicesRow.ifacesOut == Tryz.f3.resultTypes.toList.any (Tryz.pinned.checked.prog.ifacesRec ·)))=true:=by kernel_rfl
theorem j22:((Rows.topHidesChoicesRow.loopsOut == Tryz.f3.resultTypes.toList.any (Tryz.pinned.checked.prog.loopsFrom ·)))=true:=by kernel_rfl
theorem j23:((Rows.topHidesChoicesRow.plainKeys == Tryz.pinned.checked.prog.plainKeys))=true:=by kernel_rfl
theorem j24:(Rows.topHidesChoicesRow.shortTexts.isNone)=true:=by kernel_rfl
theorem j25:(Tryz.pinned.checked.prog.stopsHeard)=true:=by kernel_rfl
theorem j26:(Tryz.pinned.checked.prog.mayEnter)=true:=by kernel_rfl
theorem j27:((Rows.topHidesChoicesRow.lifted == Tryz.pinned.checked.prog.liftsFinal))=true:=by kernel_rfl
theorem j28:((Tryz.pinned.checked.prog.make == some Rows.topHidesChoicesRow.make))=true:=by kernel_rfl
theorem j29:((Rows.topHidesChoicesRow.kinds == (if Rows.topHidesChoicesRow.domain.isEmpty then [] else Tryz.f3.params.toList.map fun t=>match Tryz.pinned.checked.prog.underlying t with | some (.int k)=>some k | _=>none)))=true:=by kernel_rfl
theorem j30:((Rows.topHidesChoicesRow.pinned == Rows.topHidesChoicesRow.pinnedBy))=true:=by kernel_rfl
theorem j31:((Rows.topHidesChoicesRow.veiled == (Tryz.f3.params.toList++Rows.topHidesChoicesSpec.plain.varTypes Tryz.pinned.checked.prog++Tryz.f3.resultTypes.toList).any (Tryz.pinned.checked.prog.veiledRec ·)))=true:=by kernel_rfl
theorem j32:(Rows.topHidesChoicesRow.veiledFits Tryz.pinned.checked.prog Tryz.f3.params.toList (Tryz.f3.params.toList++Rows.topHidesChoicesSpec.plain.varTypes Tryz.pinned.checked.prog++Tryz.f3.resultTypes.toList))=true:=by kernel_rfl
theorem over:Rows.topHidesChoicesRow.holds Tryz.pinned (OpenSpec.ofChange Rows.topHidesChoicesSpec) :=
 OpenClaim.holds_of_wide 3 Tryz.f3 rfl rfl rfl rfl rfl rfl rfl ⟨rfl,rfl,rfl,rfl,rfl⟩ rfl rfl rfl rfl rfl (by kernel_rfl) Tryz.func3 (zCk j1 j2 j3 j4 j5 j6 j7 j8 j9 j10 j11 j12 j13 j14 j15 j16 j17 j18 j19 j20 j21 j22 j23 j24 j25 j26 j27 j28 j29 j30 j31 j32)
  (of_decide_eq_true (by kernel_rfl)) (by unfold Func.isWrapper;first | (rw [Qa (by decide +kernel)];kernel_rfl) | (rw [La (by decide +kernel)];exact ⟨rfl,rfl⟩))
  (fun os started H enc _=>lifted os started H enc)
theorem proved:Rows.TopHidesChoicesSaid:=over
#print axioms proved
end Go.Proofs.YteoghgbnielkpaaGreat.topHidesChoices
