/- A part of the proof. No condition. -/
import Derived.Test.YteoghgbnielkpaaGreatTH9
import Derived.Test.YteoghgbnielkpaaGreatTH7
import Derived.Test.YteoghgbnielkpaaGreatTH8

set_option maxRecDepth 100000
set_option maxHeartbeats 8000000
set_option linter.unusedVariables false
set_option linter.unusedSimpArgs false
namespace Go.Proofs.YteoghgbnielkpaaGreat
open Go.RowKit
open Tryz
open Go renaming World->vw, Value->vx, Addr->vy, TypeId->vz, Calls->vB
open Go.Value renaming int->vd, slice->ve, agg->vf
open Go.IntKind renaming u64->vn, i64->vq
open Go.Ending renaming returned->vl
open Go.RowKit renaming Below->vA
open Go.Act renaming put->vG
open Option renaming none->vD, some->vE
def Yi (s c k:Nat):List (List Nat):=(List.range k).map fun i=>[s,c+i]
theorem yT (s c k:Nat):(Yi s c k).length=k:=by simp [Yi]
theorem iR (O:Ga) (s c i:Nat):Pb O 19 (Yi s c (i+1))=Dc (Pb O 19 (Yi s c i)) 19 [s,c+i]:=by
 unfold Pb Yi;rw [List.range_succ,List.map_append,List.foldl_append]
 rfl
def rk (O:Ga) (s c i:Nat):Nat:=Pd (Pb O 19 (Yi s c i)) 19 [s,c+i]
def SF (l:List Nat) (i j:Nat):List Nat:=(l.set i (l.getD j 0)).set j (l.getD i 0)
def uj (f:Nat -> Nat) (n:Nat):Nat -> List Nat
 | 0=>List.range n
 | i+1=>SF (uj f n i) i (i+f i%(n-i))
theorem zCx (l:List Nat) (i j:Nat):(SF l i j).length=l.length:=by simp [SF]
theorem LL (f:Nat -> Nat) (n:Nat):∀ i,(uj f n i).length=n
 | 0=>by simp [uj]
 | i+1=>by rw [uj,zCx,LL f n i]
theorem zF0 {l:List Nat} {i j x:Nat} (hi:i<l.length) (hj:j<l.length) (h:x∈SF l i j):x∈l:=by
 unfold SF at h;have hg:∀ k,k<l.length -> l.getD k 0∈l:=fun k hk=>by rw [Jb,oc hk];exact wg hk
 rcases List.mem_or_eq_of_mem_set h with h | rfl
 ·rcases List.mem_or_eq_of_mem_set h with h | rfl
  ·exact h
  ·exact hg j hj
 ·exact hg i hi
theorem U4 (f:Nat -> Nat) (n:Nat):∀ i,i <= n -> ∀ x∈uj f n i,x<n
 | 0,_,x,hx=>by simpa [uj] using hx
 | i+1,h,x,hx=>by
  rw [uj] at hx;refine U4 f n i (by omega) x (zF0 (by rw [LL];omega) (by rw [LL];have:=ic (f i) (show 0<n-i by omega);omega) hx)
def xr (O:Ga) (s c n count:Nat):List Nat:=((uj (rk O s c) n count).take count).mergeSort fun x y=>decide (x <= y)
theorem eZ (O:Ga) (s c n count:Nat) (h:count <= n):(xr O s c n count).length=count:=by
 unfold xr;rw [List.length_mergeSort,List.length_take,LL,Nat.min_eq_left h]
theorem V4 (O:Ga) (s c n count:Nat) (h:count <= n):∀ x∈xr O s c n count,x<n:=fun x hx=>by
 unfold xr at hx;rw [List.mem_mergeSort] at hx;exact U4 _ n count h x (List.mem_of_mem_take hx)
theorem zAk:prog.cellsOf 32=11:=by kernel_rfl
theorem RWd.slc {w:vw} {v:vx} {l:List Nat} (h:RWd w [v] l):slc v:=by
 obtain ⟨A,n,c,e,-⟩:=h;simp at e
 exact ⟨A,n,c,e⟩
def On (P:ProofR):List Nat:=[P.root]++P.code++P.linear++P.quad++P.cols.flatten++P.salts++P.paths.flatten
theorem zDB (w:vw) (base:Nat) (x:vx) (hb:base <= w.1.size):(w.alloc (.cells #[x] 22)).ownsRow base 22 1 (ve (vE ⟨w.1.size,0,vD⟩) 1 1) 1 [x] :=
 ⟨rfl, .inr ⟨w.1.size,1,_,rfl,hb,heap_alloc_new w _,by omega,by simp [maxLen],rfl,rfl⟩⟩
theorem UJ {W W':vw} {B:Nat} {e:vz} {size:Nat} {v:vx} {n:Nat} {xs:List vx} (h:W.ownsRow B e size v n xs) (hg:W.grownBy W' v.ownBlock) (hB:B <= W.1.size):vA B W W' :=
 qz hg B hB fun g e=>(h.lt g e).1
theorem ZX (ls:List (List Nat)) (k:Nat) (h:k<ls.length):(ls.take (k+1)).flatten=(ls.take k).flatten++ls[k]:=by
 rw [iz h,List.flatten_append];simp
theorem YX (ls:List (List Nat)) (k:Nat):(ls.take k).flatten.length <= ls.flatten.length:=by
 have:(ls.take k).flatten++(ls.drop k).flatten=ls.flatten:=by rw [<- List.flatten_append,List.take_append_drop]
 rw [<- this,Kf];omega
theorem zFx (A B:Option vy) (n c m d:Nat) (l r:List Nat) (w:vw) (hl:RWd w [ve A n c] l) (hr:RWd w [ve B m d] r) :
  vB prog 68 #[ve A n c,ve B m d] w fun e w'=>e=vl (.bool (decide (l=r))) /\ ∃ k,w'=w.drewN k:=by
 obtain ⟨rfl,h1,h2,-,Ma⟩:=ug hl;obtain ⟨rfl,h3,h4,-,Oo⟩:=ug hr;have gm:=uy h1 h2;have gr:=uy h3 h4;clear hl hr h1 h2 h3 h4;by_cases z:l.length=r.length
 rotate_left
 ·have d1:((l.length:Int)!=r.length)=true:=by rw [Df];omega
  have HZ:=zH (show decide (l=r)=false from xb fun e=>z (by rw [e]))
  clear z Ma Oo;go_enter func68,ntmps68
  go_wp2;go_ret
  exact ⟨by rw [HZ.out];rfl,0,rfl⟩
 have d1:((l.length:Int)!=r.length)=false:=by rw [pk];omega
 have HE:=zH z;clear z;go_enter func68,ntmps68
 go_wp2_with fail
 go_loopw [5] (fun i wr=>∃ j kk:Nat,j <= l.length /\ i=vd vq j /\ wr=w.drewN kk /\ Hid (∀ k<j,l.getD k 0=r.getD k 0)) (fun i _=>l.length-(intOf i).toNat)
 case atStart=>exact ⟨0,0,Lb _,rfl,rfl,fun k hk=>by omega⟩
 case round =>
  obtain ⟨j,kk,hj,rfl,rfl,HB⟩:=hrel;by_cases ra:j<l.length
  ·have xf:j<r.length:=by rw [<- HE.out];exact ra
   obtain ⟨b,q,rfl,Gb,hc⟩:=dQ Ma ra;obtain ⟨b',q',rfl,Io,zn⟩:=dQ Oo xf;have HL:=zH ra;have Hk:=zH xf;have g1:(0:Int)<=j:=by omega
   have g2:(j:Int)<l.length:=by omega
   have g3:(j:Int)<r.length:=by omega
   revert hc zn
   generalize hy:l.getD j 0=y;generalize hz:r.getD j 0=z;intro hc zn;have HY:=zH hy;have HZ:=zH hz;clear hy hz Ma Oo;by_cases e:y=z
   ·have d2:((y:Int)!=z)=false:=by rw [pk];omega
    have HYZ:=zH e;clear e;go_wp2_with fail
    go_quiet (fail)
    go_wp2
    go_roundw
    case rel =>
     refine ⟨j+1,_,by omega,by go_num,rfl,fun k hk=>?_⟩
     rcases Hg k j with h5 | h5
     ·exact HB.out k h5
     ·have e:k=j:=by omega
      rw [e,HY.out,HZ.out,HYZ.out]
    case measure=>simp [intOf];omega
   ·have d2:((y:Int)!=z)=true:=by rw [Df];omega
    have HF:=zH (show decide (l=r)=false from xb fun h=>e (by rw [<- HY.out,<- HZ.out,h]))
    clear e;go_wp2_with fail
    go_quiet (fail)
    go_wp2;go_ret
    exact ⟨by rw [HF.out];rfl,_,World.drewN_drewN ..⟩
  ·have e:j=l.length:=by omega
   have HF:=zH (show decide (l=r)=true from yb (List.ext_getElem HE.out fun i h1 h2=>by
    have:=HB.out i (by omega)
    simpa [Jb,oc h1,oc h2] using this))
   clear Ma Oo;go_wp2;go_ret
   exact ⟨by rw [HF.out];rfl,_,rfl⟩
theorem SJ {w:vw} {B m:Nat} {v:vx} {a b c:List Nat} (h:w.ownsRow B 22 1 v m (Ia a++Ia b)) (e:a++b=c):w.ownsRow B 22 1 v m (Ia c):=by
 rw [<- e,RV];exact h
theorem F0 (P:ProofR) (S:PS) (w:vw) (h:Gj w P S) (hlen:(On P).length <= 1000000) :
  vB prog 69 #[vf (Ld P S)] w fun e w'=>∃ v n,e=vl v /\ w'.ownsRow w.1.size 22 1 v n (Ia (On P)) /\ vA w.1.size w w':=by
 have HT:=zH hlen;have E4:=zH (Ri h.cols).1;have E6:=zH (Ri h.paths).1;have m4:=uy (Ri h.cols).2.1 (Ri h.cols).2.2.1;have m6:=uy (Ri h.paths).2.1 (Ri h.paths).2.2.1;clear hlen;have Fb:vA w.1.size w (w.alloc (.cells (Ld P S) 46)):=(za _ _).alloc zR _;have kb:=Blk.new w 46 (Ld P S);unfold Ld at *;go_enter func69,ntmps69
 go_upto_region 1 with fail
 revert Fb kb
 generalize w.alloc _=w0;intro Fb kb;have cb:=kb.cell;have Rj:w.1.size+1 <= w0.1.size:=kb.lt;have xa:=zDB w0 (w.1.size+1) (vd vn P.root) Rj;replace Fb:=Fb.alloc Fb.size (.cells #[vd vn P.root] 22);replace kb:=kb.alloc (.cells #[vd vn P.root] 22);go_upto_region 2 with fail
 clear Rj cb;revert xa Fb kb
 generalize w0.alloc _=w1;generalize w0.1.size=g0;intro xa Fb kb;replace xa:w1.ownsRow (w.1.size+1) 22 1 _ _ (Ia [P.root]):=xa;have cb:=kb.cell;go_wp2_with (at_builtin;refine oh rfl _ _ rfl CB rfl xa rfl (ug (Iu h Fb).code).2.2.2.2 (Ck _) ?_ ?_ ?_)
 ·have e1:=xa.1;have e2:=(ug h.code).1;have e3:=HT.out;rw [So] at e1;simp only [On,Kf,jf,List.length_nil] at e3;simp only [Kf,jf,List.length_nil] at e1;omega
 ·have:=Fb.size;have:=kb.lt;omega
 intro v' wn Kb Va Zb;have hB:=UJ xa Va (by have:=kb.lt;omega)
 replace Fb:=Fb.trans (hB.mono (by omega))
 replace kb:=kb.below hB (by omega)
 replace xa:wn.ownsRow (w.1.size+1) 22 1 v' _ (Ia ([P.root]++P.code)):=SJ Kb (by simp)
 clear Kb;clear Va Zb hB cb;have cb:=kb.cell;go_wp2_with (at_builtin;refine oh rfl _ _ rfl CB rfl xa rfl (ug (Iu h Fb).linear).2.2.2.2 (Ck _) ?_ ?_ ?_)
 ·have e1:=xa.1;have e2:=(ug h.linear).1;have e3:=HT.out;rw [So] at e1;simp only [On,Kf,jf,List.length_nil] at e3;simp only [Kf,jf,List.length_nil] at e1;omega
 ·have:=Fb.size;have:=kb.lt;omega
 intro v' wn Kb Va Zb;have hB:=UJ xa Va (by have:=kb.lt;omega)
 replace Fb:=Fb.trans (hB.mono (by omega))
 replace kb:=kb.below hB (by omega)
 replace xa:wn.ownsRow (w.1.size+1) 22 1 v' _ (Ia ([P.root]++P.code++P.linear)):=SJ Kb (by simp)
 clear Kb;clear Va Zb hB cb;have cb:=kb.cell;go_wp2_with (at_builtin;refine oh rfl _ _ rfl CB rfl xa rfl (ug (Iu h Fb).quad).2.2.2.2 (Ck _) ?_ ?_ ?_)
 ·have e1:=xa.1;have e2:=(ug h.quad).1;have e3:=HT.out;rw [So] at e1;simp only [On,Kf,jf,List.length_nil] at e3;simp only [Kf,jf,List.length_nil] at e1;omega
 ·have:=Fb.size;have:=kb.lt;omega
 intro v' wn Kb Va Zb;have hB:=UJ xa Va (by have:=kb.lt;omega)
 replace Fb:=Fb.trans (hB.mono (by omega))
 replace kb:=kb.below hB (by omega)
 replace xa:wn.ownsRow (w.1.size+1) 22 1 v' _ (Ia ([P.root]++P.code++P.linear++P.quad)):=SJ Kb (by simp)
 clear Kb;clear Va Zb hB cb;have cb:=kb.cell;obtain ⟨PRE1,Mx⟩:=zEX ([P.root]++P.code++P.linear++P.quad);rw [<- Mx] at xa;have LV:=zH Mx;clear Mx;go_wp2_with fail
 go_loopw [3,4] (fun v i wr=>∃ k m:Nat,k <= S.n4 /\ i=vd vq k /\ wr.ownsRow (w.1.size+1) 22 1 v m (Ia (PRE1++(P.cols.take k).flatten)) /\ vA w.1.size w wr /\ Blk wr w.1.size 46 #[vd vn P.root,ve S.A1 S.n1 S.c1,ve S.A2 S.n2 S.c2,ve S.A3 S.n3 S.c3,ve S.A4 S.n4 S.c4,ve S.A5 S.n5 S.c5,ve S.A6 S.n6 S.c6]) (fun _ i _=>S.n4-(intOf i).toNat)
 case atStart=>exact ⟨0,_,Lb _,rfl,by simpa using xa,Fb,kb⟩
 case round =>
  clear xa Fb kb cb;obtain ⟨k,m,hk,rfl,xa,Fb,kb⟩:=hrel;have cb:=kb.cell;obtain ⟨A0,c0,rfl,-⟩:=ud xa;by_cases ra:k<S.n4
  ·have xf:k<P.cols.length:=by rw [<- E4.out];exact ra
   obtain ⟨b,q,A1,n1,c1,hA,Gb,hc,hr⟩:=xF (Ri (Iu h Fb).cols).2.2.2 xf;have HL:=zH ra;have Hk:=zH xf;have g1:(0:Int)<=k:=by omega
   have g2:(k:Int)<S.n4:=by omega
   rw [hA] at cb;clear hA;have jG:=zH (ZX P.cols k xf);have hle:=YX P.cols (k+1);rw [jG.out,Kf] at hle;obtain ⟨en1,-,-,-,Ma⟩:=ug hr;have Ev:(m+n1)*(8+1) <= 140737488355328:=by
    have e1:=xa.1;have e3:=HT.out;rw [So] at e1;have e4:=congrArg List.length LV.out;simp only [On,Kf,jf,List.length_nil] at e3 e4;simp only [Kf] at e1;omega
   clear hle en1;go_wp2_with (at_builtin;refine oh rfl _ _ rfl CB rfl xa rfl Ma (Ck _) Ev ?_ ?_)
   ·have:=Fb.size;have:=kb.lt;omega
   intro v' wn Kb Va Zb;have hB:=UJ xa Va (by have:=kb.lt;omega)
   replace Fb:=Fb.trans (hB.mono (by omega))
   replace kb:=kb.below hB (by omega)
   clear Va Zb hB cb Ev hc;go_wp2
   go_roundw
   case rel=>exact ⟨k+1,_,by omega,by go_num,SJ Kb (by rw [jG.out,fB]),Fb,kb⟩
   case measure=>simp [intOf];omega
  ·have ek:k=P.cols.length:=by rw [<- E4.out];omega
   rw [ek,Cp,LV.out] at xa;clear ek;go_wp2_with (at_builtin;refine oh rfl _ _ rfl CB rfl xa rfl (ug (Iu h Fb).salts).2.2.2.2 (Ck _) ?_ ?_ ?_)
   ·have e1:=xa.1;have e2:=(ug h.salts).1;have e3:=HT.out;rw [So] at e1;simp only [On,Kf,jf,List.length_nil] at e3;simp only [Kf,jf,List.length_nil] at e1;omega
   ·have:=Fb.size;have:=kb.lt;omega
   intro v' wn Kb Va Zb;have hB:=UJ xa Va (by have:=kb.lt;omega)
   replace Fb:=Fb.trans (hB.mono (by omega))
   replace kb:=kb.below hB (by omega)
   replace xa:wn.ownsRow (w.1.size+1) 22 1 v' _ (Ia ([P.root]++P.code++P.linear++P.quad++P.cols.flatten++P.salts)):=SJ Kb (by simp)
   clear Kb;clear Va Zb hB cb;have cb:=kb.cell;obtain ⟨PRE2,Mx⟩:=zEX ([P.root]++P.code++P.linear++P.quad++P.cols.flatten++P.salts);rw [<- Mx] at xa;have NV:=zH Mx;clear Mx;go_wp2_with fail
   go_loopw [3,5] (fun v i wr=>∃ k m:Nat,k <= S.n6 /\ i=vd vq k /\ wr.ownsRow (w.1.size+1) 22 1 v m (Ia (PRE2++(P.paths.take k).flatten)) /\ vA w.1.size w wr /\ Blk wr w.1.size 46 #[vd vn P.root,ve S.A1 S.n1 S.c1,ve S.A2 S.n2 S.c2,ve S.A3 S.n3 S.c3,ve S.A4 S.n4 S.c4,ve S.A5 S.n5 S.c5,ve S.A6 S.n6 S.c6]) (fun _ i _=>S.n6-(intOf i).toNat)
   case atStart=>exact ⟨0,_,Lb _,rfl,by simpa using xa,Fb,kb⟩
   case round =>
    clear xa Fb kb cb;obtain ⟨k,m,hk,rfl,xa,Fb,kb⟩:=hrel;have cb:=kb.cell;obtain ⟨A0,c0,rfl,-⟩:=ud xa;by_cases ra:k<S.n6
    ·have xf:k<P.paths.length:=by rw [<- E6.out];exact ra
     obtain ⟨b,q,A1,n1,c1,hA,Gb,hc,hr⟩:=xF (Ri (Iu h Fb).paths).2.2.2 xf;have HL:=zH ra;have Hk:=zH xf;have g1:(0:Int)<=k:=by omega
     have g2:(k:Int)<S.n6:=by omega
     rw [hA] at cb;clear hA;have jG:=zH (ZX P.paths k xf);have hle:=YX P.paths (k+1);rw [jG.out,Kf] at hle;obtain ⟨en1,-,-,-,Ma⟩:=ug hr;have Ev:(m+n1)*(8+1) <= 140737488355328:=by
      have e1:=xa.1;have e3:=HT.out;rw [So] at e1;have e4:=congrArg List.length NV.out;simp only [On,Kf,jf,List.length_nil] at e3 e4;simp only [Kf] at e1;omega
     clear hle en1;go_wp2_with (at_builtin;refine oh rfl _ _ rfl CB rfl xa rfl Ma (Ck _) Ev ?_ ?_)
     ·have:=Fb.size;have:=kb.lt;omega
     intro v' wn Kb Va Zb;have hB:=UJ xa Va (by have:=kb.lt;omega)
     replace Fb:=Fb.trans (hB.mono (by omega))
     replace kb:=kb.below hB (by omega)
     clear Va Zb hB cb Ev hc;go_wp2
     go_roundw
     case rel=>exact ⟨k+1,_,by omega,by go_num,SJ Kb (by rw [jG.out,fB]),Fb,kb⟩
     case measure=>simp [intOf];omega
    ·have ek:k=P.paths.length:=by rw [<- E6.out];omega
     rw [ek,Cp,NV.out] at xa;clear ek;go_wp2;go_ret
     exact ⟨_,_,rfl,Xk ((show _ from xa)) (by omega),Fb⟩
theorem zCZ {F F':Nat -> Prop} {w w':vw} (h:Moved F F' w w') {N:Nat} {V0:Nat -> Prop} (hN:N <= w.1.size) (hV:∀ b,b<N -> F b -> V0 b):∀ b,b<N -> F' b -> V0 b:=fun b hb hf=>by
 rcases h.foot b hf with e | e
 ·exact hV b hb e
 ·omega
structure Tm (V0:Nat -> Prop) (N:Nat) (V:Nat -> Prop) (w:vw):Prop where
 size:N <= w.1.size
 lt:∀ b,V b -> b<w.1.size
 old:∀ b,b<N -> V b -> V0 b
theorem mJ {V0 V V':Nat -> Prop} {N:Nat} {w w':vw} (h:Tm V0 N V w) (m:Moved V V' w w') (ra:∀ b,V' b -> b<w'.1.size):Tm V0 N V' w':=⟨jb h.size m.size,ra,zCZ m h.size h.old⟩
theorem ru {V0 V:Nat -> Prop} {N:Nat} {w w':vw} (h:Tm V0 N V w) (m:vA w.1.size w w'):Tm V0 N V w':=⟨jb h.size m.size,fun b hb=>Sd (h.lt b hb) m.size,h.old⟩
theorem zBI {V:Nat -> Prop} {w:vw} (ra:∀ b,V b -> b<w.1.size):Tm V w.1.size V w:=⟨zR,ra,fun _ _ h=>h⟩
theorem fH {V0 V V':Nat -> Prop} {N:Nat} {w w':vw} (h:Tm V0 N V w) (m:Moved V V' w w'):zi V0 N w w':=ZR m h.size h.old
section
variable {P:Program} {l:List Oper} {hs tail:List Nat} {Q:Exit -> Act -> vw -> Prop} {V0 V:Nat -> Prop} {N j:Nat} {t:vz} {z:Array vx} {rest:List Nat} {i:Nat} {o:Oper} {ya:Array Bool} {a:Act} {w:vw}
end
def KI:List Nat -> List (List Nat)
 | []=>[[]]
 | j :: js=>KI js++(KI js).map (j :: ·)
theorem GO (f:Nat -> Bool):∀ js:List Nat,js.filter f∈KI js
 | []=>by simp [KI]
 | j :: js=>by
  rw [KI,uq];cases h:f j
  ·rw [BG (by rw [h];exact NA)]
   exact .inl (GO f js)
  ·rw [CG h]
   exact .inr (ld.2 ⟨_,GO f js,rfl⟩)
def Vh (L:Array Bool) (S:List Nat):Array Bool:=S.foldl (fun L j=>L.setIfInBounds j true) L
theorem SK:∀ (S:List Nat) (L:Array Bool) (i:Nat),(Vh L S)[i]?=if i∈S then L[i]?.map (fun _=>true) else L[i]?
 | [],_,_=>by simp [Vh]
 | j :: S,L,i=>by
  show (Vh (L.setIfInBounds j true) S)[i]?=_
  rw [SK S,Array.getElem?_setIfInBounds];by_cases e:j=i
  ·subst e
   by_cases hj:j<L.size
   ·simp [hj]
   ·simp [hj]
  ·have e':¬i=j:=fun h=>e h.symm
   simp [e,e']
theorem LQ {S:List Nat} {L:Array Bool} {i:Nat} (h:i ∉ S):(Vh L S).setIfInBounds i true=Vh (L.setIfInBounds i true) S:=by
 refine Array.ext_getElem? fun k=>?_
 have tb:∀ (S:List Nat) (L:Array Bool),(Vh L S).size=L.size:=fun S=>by
  induction S with
  | nil=>intro L;rfl
  | cons j S ih=>intro L;show (Vh (L.setIfInBounds j true) S).size=_;rw [ih];simp
 rw [Array.getElem?_setIfInBounds,SK,SK,Array.getElem?_setIfInBounds,tb];by_cases e:i=k
 ·subst e
  simp [h]
 ·simp [e]
theorem p9 {J:List Nat} {f f':Nat -> Bool} {L:Array Bool} {j:Nat} (hj:j∈J) (h1:f' j=true) (h2:∀ k,k≠j -> f' k=f k):(Vh L (J.filter f)).setIfInBounds j true=Vh L (J.filter f'):=by
 refine Array.ext_getElem? fun k=>?_
 have tb:∀ (S:List Nat) (L:Array Bool),(Vh L S).size=L.size:=fun S=>by
  induction S with
  | nil=>intro L;rfl
  | cons j S ih=>intro L;show (Vh (L.setIfInBounds j true) S).size=_;rw [ih];simp
 rw [Array.getElem?_setIfInBounds,SK,SK,tb];by_cases e:j=k
 ·subst e
  simp only [if_true,Bl,hj,h1,true_and];by_cases hs:j<L.size
  ·simp [hs]
  ·simp [hs]
 ·have e':k≠j:=fun h=>e h.symm
  simp only [e,if_false,Bl,h2 k e']
structure uD (V:Nat -> Prop) (N:Nat) (w:vw) (js:List (Nat × vz × Array vx)) (f:Nat -> Bool) (gs:Nat -> Nat):Prop where
 blk:∀ x∈js,f x.1=true -> Blk w (gs x.1) x.2.1 x.2.2 /\ N <= gs x.1 /\ ¬V (gs x.1)
 dif:∀ x∈js,∀ y∈js,f x.1=true -> f y.1=true -> x.1≠y.1 -> gs x.1≠gs y.1
def Sn (gs:Nat -> Nat):Nat -> vx:=fun j=>.pointer (vE ⟨gs j,0,vD⟩)
def XF (gs:Nat -> Nat) (j g:Nat):Nat -> Nat:=fun k=>if k=j then g else gs k
theorem zEG (gs:Nat -> Nat) (j g:Nat):Sn (XF gs j g)=Lg (Sn gs) j (.pointer (vE ⟨g,0,vD⟩)):=by
 funext k
 unfold Sn XF Lg;split <;> rfl
def yF (l:List Oper) (hs tail js:List Nat):List Nat -> Array Bool -> Bool
 | [],L=>(KI js).all (fun S=>js.all (fun j=>S.contains j)||(!(Region.ready .any l.toArray (Vh L S)).isEmpty&&(Region.ready .any l.toArray (Vh L S)).all fun k=>js.contains k&&!S.contains k))&&XC l hs tail (Vh L js)
 | i :: rest,L=>decide (i<l.length)&&!js.contains i&&(js.all fun j=>pz l i j) &&
   ((KI js).all fun S=>Region.free .any l.toArray (Vh L S) i&&(Region.ready .any l.toArray (Vh L S)).contains i&&(!hs.contains i||(Region.ready .any l.toArray (Vh L S)).all fun k=>k == i||(js.contains k&&!S.contains k))) &&
   yF l hs tail js rest (L.setIfInBounds i true)
def OJ (l:List Oper) (js:List Nat):Bool:=decide js.Nodup&&js.all fun j=>decide (j<l.length)&&js.all fun k=>j == k||(Yd l j).isNone||Yd l j != Yd l k
def Gy (P:Program) (l:List Oper) (hs tail:List Nat) (Q:Exit -> Act -> vw -> Prop) (V0:Nat -> Prop) (N:Nat) (js:List (Nat × vz × Array vx)) (order:List Nat) (ya:Array Bool) (V:Nat -> Prop) (a:Act) (w:vw):Prop :=
 Region.noSelect l.toArray=true -> yF l hs tail (js.map (·.1)) order ya=true -> OJ l (js.map (·.1))=true -> (∀ x∈js,∃ oj,l[x.1]?=vE oj /\ TM P oj x.2.1 x.2.2) ->
  ∀ (f:Nat -> Bool) (gs:Nat -> Nat) (w1:vw),vA w.1.size w w1 -> uD V N w1 js f gs ->
   Sm P l.toArray Q (zi V0 N) (order.length+((js.map (·.1)).filter fun j=>!f j).length+tail.length) (Vh ya ((js.map (·.1)).filter f)) (Sf l (Sn gs) a ((js.map (·.1)).filter f)) w1
section
variable {P:Program} {l:List Oper} {hs tail:List Nat} {Q:Exit -> Act -> vw -> Prop} {V0 V:Nat -> Prop} {N:Nat} {js:List (Nat × vz × Array vx)} {rest:List Nat} {i:Nat} {o:Oper} {ya:Array Bool} {a:Act} {w:vw}
theorem zBF:uD V N w js (fun _=>false) (fun _=>0):=⟨fun _ _ h=>(nomatch h),fun _ _ _ _ h=>(nomatch h)⟩
theorem zBE {V':Nat -> Prop} {f:Nat -> Bool} {gs:Nat -> Nat} {w1 w2:vw} (h:uD V N w1 js f gs) (hm:Moved V V' w1 w2):uD V' N w2 js f gs :=
 ⟨fun x hx hf=>let ⟨a,b,c⟩:=h.blk x hx hf;⟨a.moved hm c,b,fe hm a.lt c⟩,h.dif⟩
theorem tK {id:Nat} (V0 V:Nat -> Prop) (N:Nat) (hs order:List Nat) (js:List (Nat × vz × Array vx)) (tail:List Nat) (hm:P.follows .mixedOrders=true)
  (ki:∀ x∈js,∃ oj,l[x.1]?=vE oj /\ TM P oj x.2.1 x.2.2)
  (ib:(Region.noSelect l.toArray&&order.length+js.length+tail.length == l.length&&yF l hs tail (js.map (·.1)) order (List.replicate l.length false).toArray&&OJ l (js.map (·.1)))=true)
  (h:Gy P l hs tail Q V0 N js order (List.replicate l.length false).toArray V a w.drew):(Code.region id l.toArray true).wp P Q a w:=by
 simp only [Cc,Hh] at ib;refine EM (zi V0 N) hm ?_;have:=h ib.1.1.1 ib.1.2 ib.2 ki (fun _=>false) (fun _=>0) w.drew (za _ _) zBF
 have e0:(js.map (·.1)).filter (fun _=>!false)=js.map (·.1):=List.filter_eq_self.2 (fun _ _=>rfl)
 rw [List.filter_eq_nil_iff.2 (fun _ _=>NA),e0,fk] at this
 rw [<- ib.1.1.2];rw [<- ib.1.1.2] at this;exact this
theorem wK {order:List Nat} (h:∀ W,Hid (W=w) -> zi V0 N w W -> Gy P l hs tail Q V0 N js order ya V a W):Gy P l hs tail Q V0 N js order ya V a w:=h w rfl ((Jc V0 N).refl w)
structure X8 (l:List Oper) (hs js:List Nat) (i:Nat) (L:Array Bool):Prop where
 lt:i<l.length
 nj:i ∉ js
 ap:∀ j∈js,pz l i j=true
 fr:∀ f:Nat -> Bool,Region.free .any l.toArray (Vh L (js.filter f)) i=true
 rd:∀ f:Nat -> Bool,(Region.ready .any l.toArray (Vh L (js.filter f))).contains i=true
 hv:hs.contains i=true -> ∀ (f:Nat -> Bool),∀ k∈Region.ready .any l.toArray (Vh L (js.filter f)),k=i \/ (k∈js /\ f k=false)
theorem YT {J:List Nat} (h:yF l hs tail J (i :: rest) ya=true):X8 l hs J i ya /\ yF l hs tail J rest (ya.setIfInBounds i true)=true:=by
 unfold yF at h;simp only [Cc,il,Bo] at h;obtain ⟨⟨⟨⟨h1,h2⟩,h3⟩,h4⟩,h5⟩:=h;rw [Xd] at h3 h4;have h4':=fun f:Nat -> Bool=>h4 _ (GO f J)
 simp only [Cc,Bool.or_eq_true,il] at h4';refine ⟨⟨h1,fun hj=>?_,h3,fun f=>(h4' f).1.1,fun f=>(h4' f).1.2,fun hh f k hk=>?_⟩,h5⟩
 ·rw [ND.2 hj] at h2;cases h2
 ·rcases (h4' f).2 with h6 | h6
  ·rw [hh] at h6;cases h6
  ·rw [Xd] at h6
   have h7:=h6 k hk;simp only [Bool.or_eq_true,Hh,Cc,il,ND] at h7;rcases h7 with h7 | ⟨h7,h8⟩
   ·exact .inl h7
   ·refine .inr ⟨h7,?_⟩
    cases hf:f k
    ·rfl
    ·rw [ND.2 (Bl.2 ⟨h7,hf⟩)] at h8;cases h8
structure JsOk (l:List Oper) (J:List Nat):Prop where
 nodup:J.Nodup
 lt:∀ j∈J,j<l.length
 dst:∀ j∈J,∀ k∈J,j≠k -> ∀ t,Yd l j=vE t -> Yd l k≠vE t
theorem zDj {J:List Nat} (h:OJ l J=true):JsOk l J:=by
 unfold OJ at h;simp only [Cc,Bo] at h;have h2:=Xd.1 h.2;simp only [Cc,Bo] at h2;refine ⟨h.1,fun j hj=>(h2 j hj).1,fun j hj k hk Ta t e e'=>?_⟩
 have h3:=Xd.1 (h2 j hj).2 k hk;simp only [Bool.or_eq_true,Hh,Df] at h3;rcases h3 with (h3 | h3) | h3
 ·exact Ta h3
 ·rw [e] at h3;cases h3
 ·exact h3 (e.trans e'.symm)
theorem dL {j:Nat} {oj:Oper} (h:l[j]?=vE oj):Yd l j=oj.dst:=by
 unfold Yd;rw [h]
 rfl
theorem EN (vs:Nat -> vx) (If:∀ cs b,o.op≠.select cs b) (ho:l[i]?=vE o):∀ (S:List Nat) (a:Act),(∀ j∈S,pz l i j=true) -> execOp (Sf l vs a S).eval o=execOp a.eval o /\ (∀ ops:Array Oper,ops=l.toArray -> Region.wanted o (yielded ops (Sf l vs a S).tmps)=Region.wanted o (yielded ops a.tmps))
 | [],_,_=>⟨rfl,fun _ _=>rfl⟩
 | j :: S,a,h=>by
  have hj:=h j (by simp)
  have h0:∃ oj,l[j]?=vE oj:=by
   unfold pz at hj;rw [ho] at hj;cases e:l[j]? with
   | none=>rw [e] at hj;cases hj
   | some oj=>exact ⟨oj,rfl⟩
  obtain ⟨oj,Rh⟩:=h0;obtain ⟨a1,a2,a3⟩:=Oper.apart_spec (wW hj ho Rh);have ih:=EN vs If ho S (a.put (Yd l j) (vs j)) fun k hk=>h k (by simp [hk])
  rw [dL Rh] at ih;refine ⟨?_,fun ops hops=>?_⟩
  ·show execOp (Sf l vs (a.put (Yd l j) (vs j)) S).eval o=_
   rw [dL Rh];exact ih.1.trans (execOp_put _ If _ _ _ a3)
  ·show Region.wanted o (yielded ops (Sf l vs (a.put (Yd l j) (vs j)) S).tmps)=_
   rw [dL Rh];refine (ih.2 ops hops).trans ?_;subst hops;exact wanted_put _ _ _ _ a3
theorem sU {S:List Nat} {vs:Nat -> vx} {v:vx} (ho:l[i]?=vE o) (h:∀ j∈S,pz l i j=true):(Sf l vs a S).put o.dst v=Sf l vs (a.put o.dst v) S:=by
 refine (pU l vs o.dst v S a fun j hj t e e'=>?_).symm
 have hj:=h j hj;cases Rh:l[j]? with
 | none=>unfold Yd at e';rw [Rh] at e';cases e'
 | some oj =>
  obtain ⟨a1,a2,a3⟩:=Oper.apart_spec (wW hj ho Rh);rw [dL Rh] at e';exact a2 t e e'
theorem aJ {J:List Nat} {f:Nat -> Bool} (h:∀ j∈J,pz l i j=true):∀ j∈J.filter f,pz l i j=true:=fun j hj=>h j (Bl.1 hj).1
theorem zGN {v:vx} (ho:l[i]?=vE o) (hw:Region.wanted o (yielded l.toArray a.tmps)=true) (hF:Hid (Tm V0 N V w)) (hQ:∀ c a w,Q (.panic c) (a.put o.dst v) w -> Q (.panic c) a w)
  (td:∀ w',zi V0 N w w' -> (execOp a.eval o).run P w'= .ok (.value v) w') (h:Gy P l hs tail Q V0 N js rest (ya.setIfInBounds i true) V (a.put o.dst v) w):Gy P l hs tail Q V0 N js (i :: rest) ya V a w:=by
 intro hn ib hj ki f gs w1 hb wk;obtain ⟨C,hr⟩:=YT ib;have k:=h hn hr hj ki f gs w1 hb wk;have JE:=C.lt;have e:=GB (h:=JE) ho;subst e;have If:∀ cs b,l[i].op≠.select cs b:=fun cs b=>Wu hn i l[i] cs b (by rw [dn];exact ho)
 have hx:=EN (a:=a) (Sn gs) If ho _ (aJ (f:=f) C.ap);rw [<- LQ (fun hm=>C.nj (Bl.1 hm).1),<- sU ho (aJ (f:=f) C.ap)] at k
 have:=Ul (a:=Sf l (Sn gs) a ((js.map (·.1)).filter f)) i (Jc V0 N) C.lt hn (C.fr f) (C.rd f) hQ (.inl ⟨by rw [hx.2 _ rfl];exact hw,fun w' BC=>by rw [hx.1];exact td w' ((Jc V0 N).trans _ _ _ (Mj hb hF.out.size) BC)⟩) k
 rwa [show (i :: rest).length+((js.map (·.1)).filter fun j=>!f j).length+tail.length=rest.length+((js.map (·.1)).filter fun j=>!f j).length+tail.length+1 by simp only [jf];omega]
theorem zGO (ho:l[i]?=vE o) (hw:Region.wanted o (yielded l.toArray a.tmps)=false) (hQ:∀ c a w,Q (.panic c) (a.put o.dst undef) w -> Q (.panic c) a w)
  (h:Gy P l hs tail Q V0 N js rest (ya.setIfInBounds i true) V (a.put o.dst undef) w):Gy P l hs tail Q V0 N js (i :: rest) ya V a w:=by
 intro hn ib hj ki f gs w1 hb wk;obtain ⟨C,hr⟩:=YT ib;have k:=h hn hr hj ki f gs w1 hb wk;have JE:=C.lt;have e:=GB (h:=JE) ho;subst e;have If:∀ cs b,l[i].op≠.select cs b:=fun cs b=>Wu hn i l[i] cs b (by rw [dn];exact ho)
 have hx:=EN (a:=a) (Sn gs) If ho _ (aJ (f:=f) C.ap);rw [<- LQ (fun hm=>C.nj (Bl.1 hm).1),<- sU ho (aJ (f:=f) C.ap)] at k
 have:=Ul (a:=Sf l (Sn gs) a ((js.map (·.1)).filter f)) i (Jc V0 N) C.lt hn (C.fr f) (C.rd f) hQ (.inr ⟨by rw [hx.2 _ rfl];exact hw,rfl⟩) k
 rwa [show (i :: rest).length+((js.map (·.1)).filter fun j=>!f j).length+tail.length=rest.length+((js.map (·.1)).filter fun j=>!f j).length+tail.length+1 by simp only [jf];omega]
theorem Gw {a b:Prop} (h:a) (s:Imp a b:=by
 (repeat ((first | (apply Imp.via (zGO rfl rfl (fun _ _ _ h=>h))) | (apply Imp.via (zGN (v:=?_) rfl rfl mc (fun _ _ _ h=>h) ?hr);case hr=>(intro w' hR;(first | have Bn:=YR ((Jc _ _).trans _ _ _ ea hR) | skip);go_simp;try with_reducible rfl)));simp only [vG,zLa,zLb,zLc]))
 exact Imp.rfl'):b:=s h
theorem zCR {J:List (Nat × vz × Array vx)} {k:Nat} (h:k∈J.map (·.1)):∃ x∈J,x.1=k:=by
 obtain ⟨x,hx,e⟩:=ld.1 h;exact ⟨x,hx,e⟩
theorem zAH {J:List Nat} {f f':Nat -> Bool} {j:Nat} (hn:J.Nodup) (hj:j∈J) (h0:f j=false) (h1:f' j=true) (h2:∀ k,k≠j -> f' k=f k):(J.filter fun k=>!f k).length=(J.filter fun k=>!f' k).length+1:=by
 induction J with
 | nil=>cases hj
 | cons x J ih =>
  obtain ⟨hx,LH⟩:=List.nodup_cons.1 hn;by_cases e:x=j
  ·subst e
   have:J.filter (fun k=>!f k)=J.filter (fun k=>!f' k):=List.filter_congr fun k hk=>by rw [h2 k (by rintro rfl;exact hx hk)]
   rw [CG (by rw [h0];rfl),BG (by rw [h1];exact NA),this]
   rfl
  ·have Nz:j∈J:=by
    rcases Xg.1 hj with h | h
    ·exact absurd h.symm e
    ·exact h
   have:=ih LH Nz;cases hf:f x
   ·rw [CG (by rw [hf];rfl),CG (by rw [h2 x e,hf];rfl)]
    simp only [jf];omega
   ·rw [BG (by rw [hf];exact NA),BG (by rw [h2 x e,hf];exact NA)]
    exact this
theorem bY {order:List Nat} (hF:Tm V0 N V w) (hj:OJ l (js.map (·.1))=true) (ki:∀ x∈js,∃ oj,l[x.1]?=vE oj /\ TM P oj x.2.1 x.2.2) {f:Nat -> Bool} {gs:Nat -> Nat} {w1:vw} (hb:vA w.1.size w w1) (wk:uD V N w1 js f gs) {k:Nat}
  (hk:k∈js.map (·.1)) (hf:f k=false) {fu:Nat} (hfu:order.length+((js.map (·.1)).filter fun j=>!f j).length+tail.length=fu+1)
  (ih:∀ (f':Nat -> Bool) (gs':Nat -> Nat) (w2:vw),((js.map (·.1)).filter fun j=>!f' j).length<((js.map (·.1)).filter fun j=>!f j).length -> vA w.1.size w w2 -> uD V N w2 js f' gs' ->
   Sm P l.toArray Q (zi V0 N) (order.length+((js.map (·.1)).filter fun j=>!f' j).length+tail.length) (Vh ya ((js.map (·.1)).filter f')) (Sf l (Sn gs') a ((js.map (·.1)).filter f')) w2) :
  wpS P l Q (zi V0 N) k fu (Vh ya ((js.map (·.1)).filter f)) (Sf l (Sn gs) a ((js.map (·.1)).filter f)) w1:=by
 have J:=zDj hj;obtain ⟨x,hx,rfl⟩:=zCR hk;obtain ⟨oj,Rh,gj,hmj⟩:=ki x hx;have ra:=J.lt _ hk;have e:=GB (h:=ra) Rh;subst e;refine ⟨ra,by simp [Region.wanted,gj],?_⟩
 unfold Oper.wp;rw [hmj];have ja:vA w1.1.size w1 (w1.alloc (.cells x.2.2 x.2.1)):=(za _ w1).alloc zR _;have hVlt:∀ b,V b -> b<w1.1.size:=fun b aj=>Sd (hF.lt b aj) hb.size
 refine ⟨Mj ja (jb hF.size hb.size),?_⟩;have Gv:=zAH (f:=f) (f':=fun k=>if k=x.1 then true else f k) J.nodup hk hf (Qa rfl) (fun k Ta=>La Ta)
 have:=ih (fun k=>if k=x.1 then true else f k) (XF gs x.1 w1.1.size) (w1.alloc (.cells x.2.2 x.2.1)) (by omega) (ma hb ja) ⟨fun y hy hfy=>?_,fun y hy z hz hfy hfz Ta=>?_⟩
 ·rw [<- p9 (f:=f) (f':=fun k=>if k=x.1 then true else f k) hk (Qa rfl) (fun k Ta=>La Ta),zEG,
   rU l (Sn gs) x.1 _ f (fun k=>if k=x.1 then true else f k) _ a J.nodup hk hf (Qa rfl) (fun k _ Ta=>La Ta) (fun k PE Ta t e=>J.dst _ hk k PE (fun e=>Ta e.symm) t e),dL Rh] at this
  rwa [show fu=order.length+((js.map (·.1)).filter fun j=>!(if j=x.1 then true else f j)).length+tail.length by omega]
 ·by_cases e:y.1=x.1
  ·have exy:y=x:=by
    refine RI fun Ta=>?_
    obtain ⟨i,hi,rfl⟩:=uo hx;obtain ⟨i',FE,rfl⟩:=uo hy;have hnd:=List.pairwise_iff_getElem.1 J.nodup;by_cases c:i<i'
    ·exact hnd i i' (by simpa using hi) (by simpa using FE) c (by simpa using e.symm)
    ·by_cases c':i'<i
     ·exact hnd i' i (by simpa using FE) (by simpa using hi) c' (by simpa using e)
     ·obtain rfl:i=i':=by omega
      exact Ta rfl
   subst exy;have eg:XF gs y.1 w1.1.size y.1=w1.1.size:=Qa rfl;rw [eg];exact ⟨Blk.new w1 y.2.1 y.2.2,jb hF.size hb.size,fun hv=>Nat.lt_irrefl _ (hVlt _ hv)⟩
  ·have eg:XF gs x.1 w1.1.size y.1=gs y.1:=La e
   rw [eg];rw [La e] at hfy;obtain ⟨b1,b2,b3⟩:=wk.blk y hy hfy;exact ⟨ia b1 ja,b2,b3⟩
 ·by_cases e1:y.1=x.1
  ·have e2:z.1≠x.1:=fun e2=>Ta (e1.trans e2.symm)
   rw [La e2] at hfz;have:=(wk.blk z hz hfz).1.lt;unfold XF;rw [Qa e1,La e2];omega
  ·rw [La e1] at hfy
   have hyl:=(wk.blk y hy hfy).1.lt;by_cases e2:z.1=x.1
   ·unfold XF
    rw [La e1,Qa e2];omega
   ·rw [La e2] at hfz
    unfold XF;rw [La e1,La e2];exact wk.dif y hy z hz hfy hfz Ta
theorem N8 {fuel:Nat} {L:Array Bool} {w:vw} (M:ie (zi V0 N)) (Ta:Region.ready .any l.toArray L≠[]) (h:∀ k∈Region.ready .any l.toArray L,wpS P l Q (zi V0 N) k fuel L a w):Sm P l.toArray Q (zi V0 N) (fuel+1) L a w :=
 ⟨fun h0=>absurd h0 Ta,fun k hk=>wpS_op M (h k hk)⟩
theorem zE9 {L:Array Bool} (h:(Region.ready .any l.toArray L).contains i=true):Region.ready .any l.toArray L≠[]:=fun e=>by rw [e] at h;simp at h
theorem zGM (hh:hs.contains i=true) (ho:l[i]?=vE o) (hF:Hid (Tm V0 N V w))
  (h:∀ (_:Region.noSelect l.toArray=true) (_:i<l.length),yF l hs tail (js.map (·.1)) rest (ya.setIfInBounds i true)=true -> OJ l (js.map (·.1))=true -> (∀ x∈js,∃ oj,l[x.1]?=vE oj /\ TM P oj x.2.1 x.2.2) -> (∀ j∈js.map (·.1),pz l i j=true) -> i ∉ js.map (·.1) ->
   ∀ (f:Nat -> Bool) (gs:Nat -> Nat) (w1:vw),vA w.1.size w w1 -> uD V N w1 js f gs ->
   wpS P l Q (zi V0 N) i (rest.length+((js.map (·.1)).filter fun j=>!f j).length+tail.length) (Vh ya ((js.map (·.1)).filter f)) (Sf l (Sn gs) a ((js.map (·.1)).filter f)) w1):Gy P l hs tail Q V0 N js (i :: rest) ya V a w:=by
 intro hn ib hj ki f gs w1 hb wk;obtain ⟨C,hr⟩:=YT ib;obtain ⟨m,hm⟩:=zEX (((js.map (·.1)).filter fun j=>!f j).length)
 induction m using Nat.strongRecOn generalizing f gs w1 with
 | ind m ih =>
  subst hm;rw [show (i :: rest).length+((js.map (·.1)).filter fun j=>!f j).length+tail.length=rest.length+((js.map (·.1)).filter fun j=>!f j).length+tail.length+1 by simp only [jf];omega]
  refine N8 (Jc V0 N) (zE9 (C.rd f)) fun k hk=>?_
  rcases C.hv hh f k hk with rfl | ⟨hkj,hkf⟩
  ·exact h hn C.lt hr hj ki C.ap C.nj f gs w1 hb wk
  ·refine bY (order:=i :: rest) (tail:=tail) hF.out hj ki hb wk hkj hkf (by simp only [jf];omega) fun f' gs' w2 ra Aa vS=>?_
   exact ih _ ra f' gs' w2 Aa vS rfl
theorem uK {f:FuncId} {vals:Array vx} (hh:hs.contains i=true) (ho:l[i]?=vE o) (hw:Region.wanted o (yielded l.toArray a.tmps)=true) (hF:Hid (Tm V0 N V w))
  (td:∀ w,(execOp a.eval o).run P w= .ok (.enter f vals) w)
  (h:∀ w1,vA w.1.size w w1 -> vB P f vals w1 fun e w'=>∃ v V',e=vl v /\ Moved V V' w1 w' /\ (∀ b,V' b -> b<w'.1.size) /\ Gy P l hs tail Q V0 N js rest (ya.setIfInBounds i true) V' (a.put o.dst v) w'):Gy P l hs tail Q V0 N js (i :: rest) ya V a w:=by
 refine zGM hh ho hF fun hn hi hr hj ki OB hnj f' gs w1 hb wk=>?_
 have e:=GB (h:=hi) ho;subst e;have If:∀ cs b,l[i].op≠.select cs b:=fun cs b=>Wu hn i l[i] cs b (by rw [dn];exact ho)
 have hx:=EN (a:=a) (Sn gs) If ho _ (aJ (f:=f') OB);refine zGH hi (by rw [hx.2 _ rfl];exact hw) ((h w1 hb).mono ?_) (fun w=>by rw [hx.1];exact td w)
 rintro e w' ⟨v,V',rfl,hm,ra,hz⟩;refine ⟨v,rfl,fH (ru hF.out hb) hm,?_⟩;have:=hz hn hr hj ki f' gs w' (za _ _) (zBE wk hm)
 rwa [<- LQ (fun hm=>hnj (Bl.1 hm).1),<- sU ho (aJ (f:=f') OB)] at this
theorem vK (jd:List (Option Tmp × Nat)) (hjd:((js.map (·.1)).map fun j=>(Yd l j,j))=jd) (hF:Hid (Tm V0 N V w))
  (h:∀ (gs:Nat -> Nat) (w1:vw),vA w.1.size w w1 -> uD V N w1 js (fun _=>true) gs -> jq P l hs Q (zi V0 N) tail (Vh ya (js.map (·.1))) (Ah a (Sn gs) jd) w1):Gy P l hs tail Q V0 N js [] ya V a w:=by
 intro hn ib hj ki f gs w1 hb wk;unfold yF at ib;rw [Cc,Xd] at ib;obtain ⟨ib,hk⟩:=ib;obtain ⟨m,hm⟩:=zEX (((js.map (·.1)).filter fun j=>!f j).length)
 induction m using Nat.strongRecOn generalizing f gs w1 with
 | ind m ih =>
  subst hm;have h1:=ib _ (GO f (js.map (·.1)))
  by_cases ai:∀ j∈js.map (·.1),f j=true
  ·have e1:(js.map (·.1)).filter f=js.map (·.1):=List.filter_eq_self.2 ai
   have e2:(js.map (·.1)).filter (fun j=>!f j)=[]:=List.filter_eq_nil_iff.2 fun j Nz=>by rw [ai j Nz];exact NA
   rw [e1,e2,uP,hjd];have:=h gs w1 hb ⟨fun x hx _=>wk.blk x hx (ai _ (ld.2 ⟨x,hx,rfl⟩)),fun x hx y hy _ _ Ta=>wk.dif x hx y hy (ai _ (ld.2 ⟨x,hx,rfl⟩)) (ai _ (ld.2 ⟨y,hy,rfl⟩)) Ta⟩ hn hk
   simpa using this
  ·have hns:¬((js.map (·.1)).all fun j=>((js.map (·.1)).filter f).contains j)=true:=fun h0=>ai fun j Nz=>by
    have:=Xd.1 h0 j Nz;exact (Bl.1 (ND.1 this)).2
   rw [Bool.or_eq_true] at h1;replace h1:=h1.resolve_left hns;rw [Cc] at h1;obtain ⟨hne0,h2⟩:=h1;have Ta:Region.ready .any l.toArray (Vh ya ((js.map (·.1)).filter f))≠[]:=by simpa using hne0
   rw [Xd] at h2;have Kl:0<((js.map (·.1)).filter fun j=>!f j).length:=by
    obtain ⟨j,Nz⟩:=Classical.not_forall.1 ai;obtain ⟨hj1,Oz⟩:=Classical.not_imp.1 Nz;exact List.length_pos_of_mem (Bl.2 ⟨hj1,by simp [Bool.eq_false_iff.2 Oz]⟩)
   obtain ⟨fu,hfu⟩:∃ fu,([]:List Nat).length+((js.map (·.1)).filter fun j=>!f j).length+tail.length=fu+1:=⟨((js.map (·.1)).filter fun j=>!f j).length+tail.length-1,by simp only [List.length_nil];omega⟩
   rw [hfu];refine N8 (Jc V0 N) Ta fun k PE=>?_
   have h3:=h2 k PE;simp only [Cc,il,ND] at h3;have hkf:f k=false:=by
    cases hf:f k
    ·rfl
    ·have:=h3.2
     rw [ND.2 (Bl.2 ⟨h3.1,hf⟩)] at this;cases this
   exact bY (order:=[]) (tail:=tail) hF.out hj ki hb wk h3.1 hkf hfu fun f' gs' w2 ra Aa vS=>ih _ ra f' gs' w2 Aa vS rfl
end
def mn (p s:Nat) (F G:Nat -> Nat) (t:Nat):Nat -> Nat:=Ch (fun k=>(F k+s*G k%p)%p) F t
theorem n9 (p s g base gb na ca nb cb mb t:Nat) (F G:Nat -> Nat) (w:vw) (hp:Ib p=true) (ka:w.ownsRow base 22 1 (ve (vE ⟨g,0,vD⟩) na ca) na (Ia ((List.range na).map F))) (kb:Blk w gb 22 (Oa mb G)) (hg:g≠gb) (hb:nb <= mb) (ht:t=min na nb) (hm:na <= 65536) :
  vB prog 143 #[fv p,ve (vE ⟨g,0,vD⟩) na ca,ve (vE ⟨gb,0,vD⟩) nb cb,vd vn s] w fun e w'=>e=vl (.tuple #[]) /\ w'.ownsRow base 22 1 (ve (vE ⟨g,0,vD⟩) na ca) na (Ia ((List.range na).map (mn p s F G t))) /\ w.grownBy w' (vE g):=by
 have HA:=zH (fun a b w=>xm p a b w hp)
 have HM:=zH (fun a b w=>Gq p a b w hp)
 have LS:min (na:Int) (nb:Int)=t:=by omega
 have gl:(na:Int) <= 65536:=by omega
 have lg:g<w.1.size:=(ka.lt g rfl).2;have lgb:=kb.lt;have iy:t <= na:=by omega
 have WH:t <= nb:=by omega
 have gt:(t:Int) <= 65536:=by omega
 clear ht hp;unfold fv mn at *;have da:vA w.1.size w (w.alloc (.cells #[vd vn p] 224)):=(za _ _).alloc zR _;have kf:=Blk.new w 224 #[vd vn p];have g1:w.1.size≠g:=by omega
 replace ka:=Xb ka da zR;replace kb:=ia kb da;have Pa:=Lf (Vd w (vE g)) da zR;clear da;obtain ⟨S,hS⟩:∃ S:Nat -> Nat,S=fun k=>(F k+s*G k%p)%p:=⟨_,rfl⟩
 have HSE:=zH (show ∀ k,(F k+s*G k%p)%p=S k from fun k=>by rw [hS])
 rw [<- hS];clear hS;have HZ:=zH (zGt na S F);go_enter func143,ntmps143
 go_upto_region 1 with fail
 generalize w.alloc _=w0 at kf ka kb Pa |-;go_wp2_with fail
 go_loopw [14] (fun y wr=>∃ i:Nat,i <= t /\ y=vd vq i /\ Blk wr w.1.size 224 #[vd vn p] /\ wr.ownsRow base 22 1 (ve (vE ⟨g,0,vD⟩) na ca) na (Ia ((List.range na).map (Ch S F i))) /\ Blk wr gb 22 (Oa mb G) /\ w.grownBy wr (vE g)) (fun y _=>t-(intOf y).toNat)
 case atStart=>exact ⟨0,Lb _,rfl,kf,by rw [HZ.out];exact ka,kb,Pa⟩
 case round =>
  clear kf ka kb Pa;obtain ⟨i,hi,rfl,kf,ka,kb,Pa⟩:=hrel;by_cases ra:i<t
  ·have q1:(0:Int)<=i:=by omega
   have q2:(i:Int)<t:=by omega
   have q3:(i:Int)<na:=by omega
   have q4:(i:Int)<nb:=by omega
   have XB:i<na:=by omega
   have himb:i<mb:=by omega
   have Zy:=zH (HSE.out i);obtain ⟨x,hx⟩:=zEX (F i);obtain ⟨y,hy⟩:=zEX (G i);obtain ⟨u,hu⟩:=zEX (s*y%p);obtain ⟨z,hz⟩:=zEX (S i);have Wg:=zH (zGs (n:=na) (G:=F) hz);rw [<- hx,<- hy,<- hu,<- hz] at Zy;have HX:=zH (show (Ia ((List.range na).map (Ch S F i)))[i]?=vE (vd vn x) by rw [zGr _ _ XB,hx])
   have Le:Hid (∀ w:vw,vB prog 142 #[vf #[vd vn p],vd vn s,vd vn y] w fun e w'=>e=vl (vd vn u) /\ vA w.1.size w w'):=zH (fun w=>by rw [hu];exact HM.out s y w)
   have HC:Hid (∀ w:vw,vB prog 215 #[vf #[vd vn p],vd vn x,vd vn u] w fun e w'=>e=vl (vd vn z) /\ vA w.1.size w w'):=zH (fun w=>by rw [<- Zy.out];exact HA.out x u w)
   have ca1:=ka.cellAt i (by omega)
   rw [HX.out] at ca1;have cb1:=kb.cell i;rw [Ff _ himb,<- hy] at cb1;clear hx hy hz hu;have cf:=kf.cell;have lf:=kf.lt;have la:g<wr.1.size:=(ka.lt g rfl).2;have lb:=kb.lt;go_upto_region 4 with fail
   refine Ve (Tb) (pa) [16] [16] [0,1,2,3,4,5,6,7,8,9,10,11,12,13,14,15,16] (by kernel_rfl) (by kernel_rfl) ?_
   refine Xe (pa) ?_;intro Wc ea;refine kd ?_;refine Uc (pa) rfl rfl rfl rfl (fun _ _ _ h=>h) (fun _=>by go_simp <;> rfl) (fun w' hR=>Le.out _) ?_
   refine zPU ?_;refine kd ?_;refine Uc (pa) rfl rfl rfl rfl (fun _ _ _ h=>h) (fun _=>by go_simp <;> rfl) (fun w' hR=>HC.out _) ?_
   refine zPU ?_;refine kd ?_;refine Ti rfl rfl rfl rfl ?_;intro wh Bc;replace ea:=(pa).trans _ _ _ ea Bc;have Ub:=ma (za wr.1.size wr).drew ea;have VB:=Lf Pa Ub Pa.size;replace kf:=ia kf Ub;replace ka:=Xb ka Ub zR;replace kb:=ia kb Ub;clear Ub ea Bc cf lf la lb ca1 cb1 Pa;have c2:=ka.cellAt i (by omega)
   rw [HX.out] at c2;have f2:=ka.frozenAt i;go_simp;refine ⟨fun h=>Bool.noConfusion h,?_⟩
   obtain ⟨ka,Ph⟩:=ka.stored i (vd vn z);replace kf:=kf.grown Ph (fun e=>g1 (db e))
   replace kb:=kb.grown Ph (fun e=>hg (db e).symm)
   rw [Wg.out] at ka;have Pa:=Iq VB Ph (fun _ e=>.inl e)
   clear Ph f2 c2 VB;generalize wh.setCell _ _=we at kf ka kb Pa |-;refine Dj rfl ?_;go_wp2_with fail
   go_roundw
   case rel=>exact ⟨i+1,by omega,by go_num,kf,ka,kb,Pa⟩
   case measure=>simp [intOf];omega
  ·obtain rfl:i=t:=by omega
   have q2:¬((i:Int)<i):=by omega
   go_wp2;exact bodyPost_end (v:=.tuple #[]) (by simp [results,results143,go_sem]) rfl ⟨rfl,ka,Pa⟩
def iA (p N J:Nat) (a b:List Nat):Nat -> Nat:=Im p N J ((List.range N).map fun i=>Kj p N J a 1 i*Kj p N J b 1 i%p)
theorem F7 (p:Nat) (A B:Option vy) (n c m d J N len:Nat) (a b:List Nat) (w:vw) (hp:Ib p=true) (ha:RWd w [ve A n c] a) (hb:RWd w [ve B m d] b) (Ge:1 <= n) (Gn:1 <= m) (hn8:n <= 4096) (hm8:m <= 4096) (hN:dk p N) (hJ:N=2^J) (hlen:n+m=len+1) (h1:len <= N) (h2:∀ j,j<J -> 2^j<len) :
  vB prog 145 #[fv p,ve A n c,ve B m d] w fun e w'=>∃ g,e=vl (.tuple #[ve (vE ⟨g,0,vD⟩) len N,vd vq 0]) /\ w.1.size <= g /\ Blk w' g 22 (Oa N (iA p N J a b)) /\ vA w.1.size w w':=by
 obtain ⟨Ed,uc⟩:=Nb hp;have hN4:=hN.le;have sn:=hN.pos;have HV:=zH (fun w=>Eo p w hp)
 have HR:=zH (fun w=>VP p N w hp hN)
 have HEa:=zH (fun w' (aj:vA w.1.size w w')=>eV p A n c N J 1 a w' hp (Bb aj ha) hN hJ (by rw [Fj (by omega)];decide) (by omega))
 have HEb:=zH (fun w' (aj:vA w.1.size w w')=>eV p B m d N J 1 b w' hp (Bb aj hb) hN hJ (by rw [Fj (by omega)];decide) (by omega))
 have HM:=zH (fun x y w=>Gq p x y w hp)
 have HI:=zH (fun g l w hl=>UP p (vE ⟨g,0,vD⟩) N N J l w hp hl hN hJ)
 have HJ:=zH hJ;have H2:=zH h2;have HQ:=zH (show ∀ j,j <= J -> 2^j <= N from fun j hj=>by rw [hJ];exact Zr (by decide) hj)
 obtain ⟨Ea,hEa⟩:=zEX (Kj p N J a 1);obtain ⟨Eb,hEb⟩:=zEX (Kj p N J b 1);obtain ⟨Pr,hPr⟩:∃ Pr:Nat -> Nat,Pr=fun i=>Ea i*Eb i%p:=⟨_,rfl⟩
 have Uy:=zH (show ∀ i,Ea i*Eb i%p=Pr i from fun i=>by rw [hPr])
 have Rr:=zH (show ∀ i,Pr i<18446744073709551616 from fun i=>by rw [hPr];exact Eh (ic _ (by omega)) uc)
 rw [show iA p N J a b=Im p N J ((List.range N).map Pr) by rw [hPr,hEa,hEb];rfl]
 rw [<- hEa] at HEa;rw [<- hEb] at HEb;have e1:(n:Int)+m=((len+1:Nat):Int):=by omega
 obtain ⟨s,hs⟩:=zEX (len+1);rw [<- hs] at e1;have e2:=Ce s;have e3:(s:Int)-1=(len:Int):=by omega
 have e4:=Ce len;have d1:((n:Int) == 0)=false:=by rw [pd];omega
 have d2:((m:Int) == 0)=false:=by rw [pd];omega
 have z1:¬((n:Int)=0):=by omega
 have z2:¬((m:Int)=0):=by omega
 have z3:¬(n=0):=by omega
 have z4:¬(m=0):=by omega
 have gN:(N:Int) <= 4096:=by omega
 have gl:(len:Int)<=N:=by omega
 have gl2:len <= N:=h1;have gl0:(0:Int)<=len:=by omega
 unfold fv at *;have kf:=Blk.new w 224 #[vd vn p];have da:vA w.1.size w (w.alloc (.cells #[vd vn p] 224)):=(za _ _).alloc zR _;clear hEa hEb hPr hJ h2 ha hb hp hN hs hlen h1;go_enter func145,ntmps145
 go_wp2_with fail
 generalize w.alloc _=w1 at kf da |-;refine (HV.out _).mono ?_;rintro e w2 ⟨rfl,ta⟩;replace kf:=ia kf ta;replace da:=ma da ta;clear ta;go_wp2_with fail
 go_loopw [9] (fun v wr=>∃ j q:Nat,j <= J /\ Hid (q=2^j) /\ v=vd vq q /\ Blk wr w.1.size 224 #[vd vn p] /\ vA w.1.size w wr) (fun v _=>8194-(intOf v).toNat)
 case atStart=>exact ⟨0,1,Lb _,zH rfl,rfl,kf,da⟩
 case round =>
  clear kf da;obtain ⟨j,q,hj,HQj,rfl,kf,da⟩:=hrel;by_cases ra:j<J
  ·have pj:q<len:=by have:=H2.out j ra;rw [HQj.out];exact this
   have Tp:q <= N:=by have:=HQ.out j hj;rw [HQj.out];exact this
   have hq3:1 <= q:=by rw [HQj.out];exact Nat.one_le_two_pow
   have q1:(q:Int)<len:=by omega
   have q2:(q:Int) <= 4096:=by omega
   have q1d:decide ((q:Int)<len)=true:=yb q1;have q2d:decide ((q:Int) <= 4096)=true:=yb q2;obtain ⟨r,hr⟩:=zEX (q*2);have x1:(q:Int)*2=(r:Int):=by omega
   have x2:=Ce r;have HQn:Hid (r=2^(j+1)):=zH (by rw [hr,HQj.out,Ig])
   have hrq:q<r:=by omega
   have Ll:r <= 8192:=by omega
   clear hr;go_wp2
   go_roundw
   case rel=>exact ⟨j+1,r,by omega,HQn,rfl,kf,da⟩
   case measure=>simp [intOf];omega
  ·obtain rfl:j=J:=by omega
   have hqN:q=N:=by rw [HQj.out,HJ.out]
   subst hqN;have q1:¬((q:Int)<len):=by omega
   have q1d:decide ((q:Int)<len)=false:=xb q1;clear H2 HQ HQj HJ;have cf:=kf.cell;go_wp2_with fail
   refine (HR.out _).mono ?_;rintro e w3 ⟨rfl,ta⟩;replace kf:=ia kf ta;replace da:=ma da ta;clear ta cf HR;have cf:=kf.cell;go_wp2_with fail
   refine (HEa.out _ da).mono ?_;rintro e w4 ⟨g1,rfl,Oh,k1,ta⟩;have AH:=kf.lt;replace kf:=ia kf ta;replace da:=ma da ta;clear ta cf HEa;have cf:=kf.cell;go_wp2_with fail
   refine (HEb.out _ da).mono ?_;rintro e w5 ⟨g2,rfl,Ss,k2,ta⟩;have BH:=k1.lt;replace kf:=ia kf ta;replace k1:=ia k1 ta;replace da:=ma da ta;clear ta cf HEb HV;have hgf:w.1.size<g1:=by omega
   have hg12:g1<g2:=by omega
   have HZ:=zH (NI q Pr Ea);clear Oh Ss AH BH q1d;go_wp2_with fail
   go_loopw [73] (fun y wr=>∃ i:Nat,i <= q /\ y=vd vq i /\ Blk wr w.1.size 224 #[vd vn p] /\ Blk wr g1 22 (Oa q (Ch Pr Ea i)) /\ Blk wr g2 22 (Oa q Eb) /\ vA w.1.size w wr) (fun y _=>q-(intOf y).toNat)
   case atStart=>exact ⟨0,Lb _,rfl,kf,by rw [HZ.out];exact k1,k2,da⟩
   case round =>
    clear kf k1 k2 da;obtain ⟨i,hi,rfl,kf,k1,k2,da⟩:=hrel;by_cases ra:i<q
    ·have q3:(i:Int)<q:=by omega
     have q4:(0:Int)<=i:=by omega
     have c1:=k1.cell i;rw [pD _ _ ra] at c1;have c2:=k2.cell i;rw [Ff _ ra] at c2;have HPi:=zH (Uy.out i);obtain ⟨x,hx⟩:=zEX (Ea i);obtain ⟨y,hy⟩:=zEX (Eb i);obtain ⟨z,hz⟩:=zEX (Pr i);have Wg:=zH (qD (n:=q) (G:=Ea) hz);have HX:=zH hx;rw [<- hx] at c1 HPi;rw [<- hy] at c2 HPi;rw [<- hz] at HPi;have Le:=zH (fun w=>by have:=HM.out x y w;rw [HPi.out] at this;exact this)
     clear hx hy hz HPi;have cf:=kf.cell;have lf:=kf.lt;have l1:=k1.lt;have l2:=k2.lt;go_upto_region 20 with fail
     refine Ve (Tb) (pa) [13] [13] [0,1,2,3,4,5,6,7,8,9,10,11,12,13] (by kernel_rfl) (by kernel_rfl) ?_
     refine Xe (pa) ?_;intro Wc ea;refine kd ?_;refine Uc (pa) rfl rfl rfl rfl (fun _ _ _ h=>h) (fun _=>by go_simp <;> rfl) (fun w' hR=>Le.out _) ?_
     refine zPU ?_;refine kd ?_;refine Ti rfl rfl rfl rfl ?_;intro wh Bc;replace ea:=(pa).trans _ _ _ ea Bc;have Ub:=ma (za wr.1.size wr).drew ea;replace kf:=ia kf Ub;replace k1:=ia k1 Ub;replace k2:=ia k2 Ub;replace da:=ma da Ub;clear Ub ea Bc cf lf l1 l2 c1 c2;have c3:=k1.cell i;rw [pD _ _ ra,<- HX.out] at c3;have f3:=k1.frozen;go_simp;refine ⟨fun h=>Bool.noConfusion h,?_⟩
     have hg:=Bj (w:=wh) g1 i (vd vn z);replace k1:=k1.set_ i (vd vn z);rw [Wg.out] at k1;replace kf:=kf.grown hg (fun e=>by have:=db e;omega)
     replace k2:=k2.grown hg (fun e=>by have:=db e;omega)
     replace da:=Dd da hg;clear hg f3 c3;generalize wh.setCell _ _=we at kf k1 k2 da |-;refine Dj rfl ?_;go_wp2_with fail
     go_roundw
     case rel=>exact ⟨i+1,by omega,by go_num,kf,k1,k2,da⟩
     case measure=>simp [intOf];omega
    ·obtain rfl:i=q:=by omega
     have q3:¬((i:Int)<i):=by omega
     rw [pK] at k1;have hl:=FB k1 (fun k _=>Rr.out k) (by simp [maxLen];omega)
     have cf:=kf.cell;clear k2 k1;go_wp2_with fail
     refine (HI.out _ _ _ hl).mono ?_;rintro e w7 ⟨g3,rfl,Ph,k3,ta⟩;have hs:=da.size;go_wp2
     go_ret2
     exact ⟨g3,rfl,by omega,k3,ma da ta⟩
def Gs (L:Ra) (rows:List (List Nat)) (l1 l2 l3 l4:List Nat):Bool :=
 decide (rows.length=L.a+L.b+L.b+L.b)&&(rows.all (fun r=>Jh r L.queries L.p)&&(Jh l1 L.k L.p&&(Jh l2 (L.k+L.block-2) L.p&&(Jh l3 (L.block+2*L.queries-1) L.p&&Jh l4 L.n Za))))
theorem P9 {l:List (List Nat)} {f:List Nat -> Bool} {i:Nat} (h:(l.take i).all f=true) (hi:i<l.length) (hx:f l[i]=true):(l.take (i+1)).all f=true:=by
 rw [iz hi,List.all_append,h,List.all_cons,hx]
 rfl
theorem O9 {l:List (List Nat)} {f:List Nat -> Bool} {i:Nat} (hi:i<l.length) (hx:f l[i]=false):l.all f=false:=by
 rw [bz];exact ⟨l[i],wg _,by rw [hx];decide⟩
theorem vZ (L:Ra) (A0 A1 A2 A3 A4:Option vy) (n0 c0 n1 c1 n2 c2 n3 c3 n4 c4:Nat) (rows:List (List Nat)) (l1 l2 l3 l4:List Nat) (w:vw) (hL:Rb L)
  (h0:mg w [ve A0 n0 c0] rows) (h1:RWd w [ve A1 n1 c1] l1) (h2:RWd w [ve A2 n2 c2] l2) (h3:RWd w [ve A3 n3 c3] l3) (h4:RWd w [ve A4 n4 c4] l4) :
  vB prog 57 #[vf (Db L),vf #[ve A0 n0 c0,ve A1 n1 c1,ve A2 n2 c2,ve A3 n3 c3,ve A4 n4 c4]] w fun e w'=>e=vl (.bool (Gs L rows l1 l2 l3 l4)) /\ vA w.1.size w w':=by
 have HC:=zH (fun w=>ZW L w hL)
 have HT:=zH (fun w=>AI L.p L.block L.queries L.k L.n L.secret L.rows L.a L.b L.b L.b w hL.a hL.b hL.b hL.b)
 have Yl:=zH (fun w' (hb:vA w.1.size w w')=>iL A1 n1 c1 L.k L.p l1 w' (Bb hb h1))
 have Tg:=zH (fun w' (hb:vA w.1.size w w')=>iL A2 n2 c2 (L.k+L.block-2) L.p l2 w' (Bb hb h2))
 have zD:=zH (fun w' (hb:vA w.1.size w w')=>iL A3 n3 c3 (L.block+2*L.queries-1) L.p l3 w' (Bb hb h3))
 have HE4:=zH (fun w' (hb:vA w.1.size w w')=>iL A4 n4 c4 L.n Za l4 w' (Bb hb h4))
 obtain ⟨Ws,a1,a2,r0⟩:=zj h0;have gm:=Tl a1 a2;obtain ⟨ans,ha⟩:=zEX (Gs L rows l1 l2 l3 l4);rw [<- ha];unfold Gs at ha;rw [Ws] at ha;have HN:=zH Ws;obtain ⟨kl,kc,tk,tb⟩:=Ih w 101 41 (Db L) #[ve A0 n0 c0,ve A1 n1 c1,ve A2 n2 c2,ve A3 n3 c3,ve A4 n4 c4];generalize Jh l1 L.k L.p=b1 at *;generalize Jh l2 (L.k+L.block-2) L.p=b2 at *;generalize Jh l3 (L.block+2*L.queries-1) L.p=b3 at *;generalize Jh l4 L.n Za=b4 at *;generalize L.k+L.block-2=m2 at *;generalize L.block+2*L.queries-1=m3 at *;generalize L.a+L.b+L.b+L.b=T at *;have HA:=zH ha;clear ha h0 h1 h2 h3 h4 hL a1 a2 Ws;unfold Db at *;unfold Za at HE4;go_enter func57,ntmps57
 go_wp2_with fail
 generalize (w.alloc _).alloc _=w1 at kl kc tk tb |-;refine (HC.out _).mono ?_;rintro e w2 ⟨rfl,Aa⟩;have ks:=Blk.new w2 216 #[vd vq L.k,vd vq m2,vd vq m3];have yn:=(za w2.1.size w2).alloc zR (.cells #[vd vq L.k,vd vq m2,vd vq m3] 216);replace kl:=ia kl Aa;replace kc:=ia kc Aa;replace kl:=ia kl yn;replace kc:=ia kc yn;have da:=ma (ma tk Aa) yn;go_upto_region 2 with fail
 generalize w2.alloc _=w3 at kl kc ks da |-;generalize w2.1.size=gs at ks |-;clear tk Aa yn tb HC;have cl:=kl.cell;have cc:=kc.cell;have cs:=ks.cell;have ll:=kl.lt;have lc:=kc.lt;have ls:=ks.lt;by_cases hT:n0=T
 rotate_left
 ·have HF:=zH (show ans=false by rw [HA.out,xb hT];rfl)
  have t1:((n0:Int)!=T)=true:=by rw [Df];omega
  have t2:((n0:Int)==T)=false:=by rw [pd];omega
  clear HA hT;refine Ve (Tb) (pa) [] [] [0,1,2,3,4,5,6,7,8,9,10,11,12,13,14,15,16,17,18,19,20,21,22,23,24,25] (by kernel_rfl) (by kernel_rfl) ?_
  refine Xe (pa) ?_;intro Wc ea;refine Ee ?_;refine Uc (pa) rfl rfl rfl rfl (fun _ _ _ h=>h) (fun _=>by go_simp <;> rfl) (fun w' hR=>HT.out _) ?_
  refine zPU ?_;refine Ee ?_;refine Hr rfl ?_;intro wd ke;replace ea:=(pa).trans _ _ _ ea ke;clear ke;go_wp2_with fail
  go_ret
  exact ⟨by rw [HF.out];rfl,ma da.drew ea⟩
 have t1:((n0:Int)!=T)=false:=by rw [pk];omega
 have t2:((n0:Int)==T)=true:=by rw [Hh];omega
 have HB:=zH (show ans=(rows.all (fun r=>Jh r L.queries L.p)&&(b1&&(b2&&(b3&&b4)))) by rw [HA.out,yb hT];rfl)
 clear HA hT;cases b1
 ·have HF:=zH (show ans=false by rw [HB.out];simp)
  refine Ve (Tb) (pa) [] [] [0,1,2,3,4,5,6,7,8,9,10,11,12,13,14,15,16,17,18,19,20,21,22,23,24,25] (by kernel_rfl) (by kernel_rfl) ?_
  refine Xe (pa) ?_;intro Wc ea;refine Ee ?_;refine Uc (pa) rfl rfl rfl rfl (fun _ _ _ h=>h) (fun _=>by go_simp <;> rfl) (fun w' hR=>HT.out _) ?_
  refine zPU ?_;refine Ee ?_;refine Uc (pa) rfl rfl rfl rfl (fun _ _ _ h=>h) (fun _=>by go_simp <;> rfl) (fun w' hR=>Yl.out _ (ma da.drew (ma ea hR))) ?_
  refine zPU ?_;refine Ee ?_;refine Hr rfl ?_;intro wd ke;replace ea:=(pa).trans _ _ _ ea ke;clear ke;go_wp2_with fail
  go_ret
  exact ⟨by rw [HF.out];rfl,ma da.drew ea⟩
 cases b2
 ·have HF:=zH (show ans=false by rw [HB.out];simp)
  refine Ve (Tb) (pa) [] [] [0,1,2,3,4,5,6,7,8,9,10,11,12,13,14,15,16,17,18,19,20,21,22,23,24,25] (by kernel_rfl) (by kernel_rfl) ?_
  refine Xe (pa) ?_;intro Wc ea;refine Ee ?_;refine Uc (pa) rfl rfl rfl rfl (fun _ _ _ h=>h) (fun _=>by go_simp <;> rfl) (fun w' hR=>HT.out _) ?_
  refine zPU ?_;refine Ee ?_;refine Uc (pa) rfl rfl rfl rfl (fun _ _ _ h=>h) (fun _=>by go_simp <;> rfl) (fun w' hR=>Yl.out _ (ma da.drew (ma ea hR))) ?_
  refine zPU ?_;refine Ee ?_;refine Uc (pa) rfl rfl rfl rfl (fun _ _ _ h=>h) (fun _=>by go_simp <;> rfl) (fun w' hR=>Tg.out _ (ma da.drew (ma ea hR))) ?_
  refine zPU ?_;refine Ee ?_;refine Hr rfl ?_;intro wd ke;replace ea:=(pa).trans _ _ _ ea ke;clear ke;go_wp2_with fail
  go_ret
  exact ⟨by rw [HF.out];rfl,ma da.drew ea⟩
 refine Ve (Tb) (pa) [] [] [0,1,2,3,4,5,6,7,8,9,10,11,12,13,14,15,16,17,18,19,20,21,22,23,24,25] (by kernel_rfl) (by kernel_rfl) ?_
 refine Xe (pa) ?_;intro Wc ea;refine Ee ?_;refine Uc (pa) rfl rfl rfl rfl (fun _ _ _ h=>h) (fun _=>by go_simp <;> rfl) (fun w' hR=>HT.out _) ?_
 refine zPU ?_;refine Ee ?_;refine Uc (pa) rfl rfl rfl rfl (fun _ _ _ h=>h) (fun _=>by go_simp <;> rfl) (fun w' hR=>Yl.out _ (ma da.drew (ma ea hR))) ?_
 refine zPU ?_;refine Ee ?_;refine Uc (pa) rfl rfl rfl rfl (fun _ _ _ h=>h) (fun _=>by go_simp <;> rfl) (fun w' hR=>Tg.out _ (ma da.drew (ma ea hR))) ?_
 refine zPU ?_;refine Ee ?_;refine Hr rfl ?_;intro wd ke;replace ea:=(pa).trans _ _ _ ea ke;clear ke;replace kl:=kl.drew.below ea kl.lt;replace kc:=kc.drew.below ea kc.lt;replace ks:=ks.drew.below ea ks.lt;replace da:=ma da.drew ea;clear cl cc cs ll lc ls ea Yl Tg HT;have cl:=kl.cell;have cc:=kc.cell;have cs:=ks.cell;have nQ:=zH (zD.out _ da);cases b3
 ·have HF:=zH (show ans=false by rw [HB.out];simp)
  go_wp2_with fail
  refine nQ.out.mono ?_;rintro e w5 ⟨rfl,Wa⟩;go_wp2;go_ret
  exact ⟨by rw [HF.out];rfl,ma da Wa⟩
 go_wp2_with fail
 refine nQ.out.mono ?_;rintro e w5 ⟨rfl,Wa⟩;replace kl:=ia kl Wa;replace kc:=ia kc Wa;replace da:=ma da Wa;clear cl cc cs ks Wa nQ zD;have cl:=kl.cell;have cc:=kc.cell;have oQ:=zH (HE4.out _ da);cases b4
 ·have HF:=zH (show ans=false by rw [HB.out];simp)
  go_wp2_with fail
  refine oQ.out.mono ?_;rintro e w6 ⟨rfl,Ec⟩;go_wp2;go_ret
  exact ⟨by rw [HF.out];rfl,ma da Ec⟩
 go_wp2_with fail
 refine oQ.out.mono ?_;rintro e w6 ⟨rfl,Ec⟩;replace kl:=ia kl Ec;replace kc:=ia kc Ec;replace da:=ma da Ec;clear cl cc Ec oQ HE4;have Sg:=zH (show ans=rows.all (fun r=>Jh r L.queries L.p) by rw [HB.out];simp)
 clear HB;have cc:=kc.cell;go_wp2_with fail
 clear cc;go_loopw [55] (fun y wr=>∃ i:Nat,i <= n0 /\ y=vd vq i /\ Hid ((rows.take i).all (fun r=>Jh r L.queries L.p)=true) /\ Blk wr w.1.size 101 #[vd vn L.p,vd vq L.block,vd vq L.queries,vd vq L.k,vd vq L.n,vd vq L.secret,vd vq L.rows,vd vq L.a,vd vq L.b,vd vq L.b,vd vq L.b] /\ vA w.1.size w wr) (fun y _=>n0-(intOf y).toNat)
 case atStart=>exact ⟨0,Lb _,rfl,rfl,kl,da⟩
 case round =>
  clear kl kc da;obtain ⟨i,hi,rfl,HTk,kl,da⟩:=hrel;by_cases ra:i<n0
  ·have g1:(0:Int)<=i:=by omega
   have g2:(i:Int)<n0:=by omega
   have i1:i<rows.length:=by rw [HN.out];exact ra
   obtain ⟨x1,y1,B1,m1,k1,rfl,v1,d1,s1⟩:=Lu (r0.below dI da) i1;have HS:=zH (iL B1 m1 k1 L.queries L.p rows[i] wr s1);have cl:=kl.cell;clear s1;cases hx:Jh rows[i] L.queries L.p
   ·have HF:=zH (Sg.out.trans (O9 i1 hx))
    rw [hx] at HS;clear hx HTk i1;go_wp2_with fail
    refine HS.out.mono ?_;rintro e w7 ⟨rfl,pc⟩;go_wp2;go_ret
    exact ⟨by rw [HF.out];rfl,ma da pc⟩
   ·have aB:=zH (P9 HTk.out i1 hx)
    rw [hx] at HS;clear hx HTk i1;go_wp2_with fail
    refine HS.out.mono ?_;rintro e w7 ⟨rfl,pc⟩;replace kl:=ia kl pc;replace da:=ma da pc;clear cl pc d1 v1;go_wp2
    go_roundw
    case rel=>exact ⟨i+1,by omega,by go_num,aB.out,kl,da⟩
    case measure=>simp [intOf];omega
  ·obtain rfl:i=n0:=by omega
   have HF:=zH (show ans=true by rw [Sg.out];have:=HTk.out;rwa [<- HN.out,Cp] at this)
   go_wp2;go_ret
   exact ⟨by rw [HF.out];rfl,da⟩
theorem yR {a b:Nat -> Int} (x:Int):∀ n,(∀ i,i<n -> a i=b i) -> Cb a x n=Cb b x n
 | 0,_=>rfl
 | n+1,h=>by rw [Cb,Cb,yR x n fun i hi=>h i (by omega),h n (by omega)]
theorem BN (a:Nat -> Nat) (k v:Nat) (x:Int):∀ n,k<n -> Cb (fun i=>(df a k v i:Int)) x n=Cb (fun i=>(a i:Int)) x n+((v:Int)-a k)*x^k
 | 0,h=>by omega
 | n+1,h=>by
  rw [Cb,Cb];by_cases e:k=n
  ·subst e
   rw [yR (b:=fun i=>(a i:Int)) x k fun i hi=>by simp only [df];rw [La (by omega)]]
   simp only [df,if_true]
   grind
  ·rw [BN a k v x n (by omega)]
   simp only [df];rw [La (by omega)]
   omega
theorem oV {p b:Nat} (hp:0<p) (l:List Nat) (x:Int) (m:Nat):∀ i,i <= m -> Cg p (Cb (fun k=>(gg p b l i k:Int)) x (b+m)) ((x^b-1)*Cb (fun k=>((l.getD k 0:Nat):Int)) x i)
 | 0,_=>by
  refine Cg.of_eq ?_;show Cb (fun k=>((0:Nat):Int)) x (b+m)=(x^b-1)*0
  rw [uv,Int.mul_zero,<- jD (b+m)]
  congr 1
  funext k
  simp
 | i+1,hi=>by
  have ih:=oV hp (b:=b) l x m i (by omega)
  rw [gg];rw [BN _ _ _ _ _ (by omega),BN _ _ _ _ _ (by omega),Cb]
  generalize df (gg p b l i) i ((gg p b l i i+Rf p (l.getD i 0))%p)=v;have h1:Cg p (((gg p b l i i+Rf p (l.getD i 0))%p:Nat)-(gg p b l i i:Int)) (-((l.getD i 0:Nat):Int)):=by
   have:=((Cg.mod (p:=p) (gg p b l i i+Rf p (l.getD i 0))).trans (Cg.trans (Cg.of_eq (Al _ _)) (Cg.rfl'.add (UC p (l.getD i 0) hp)))).add (Cg.rfl' (x:=-(gg p b l i i:Int)));exact Cg.trans (Cg.of_eq (by omega)) (this.trans (Cg.of_eq (by omega)))
  have h2:Cg p (((v (b+i)+l.getD i 0)%p:Nat)-(v (b+i):Int)) ((l.getD i 0:Nat):Int):=by
   have:=((Cg.mod (p:=p) (v (b+i)+l.getD i 0)).trans (Cg.of_eq (Al _ _))).add (Cg.rfl' (x:=-(v (b+i):Int)));exact Cg.trans (Cg.of_eq (by omega)) (this.trans (Cg.of_eq (by omega)))
  refine ((ih.add (h1.mul Cg.rfl')).add (h2.mul Cg.rfl')).trans (Cg.of_eq ?_);rw [Int.pow_add]
  grind
theorem p8 {p b:Nat} (hp:0<p) (hb:0<b) (l:List Nat):∀ i k,Cg p (gg p b l i k:Int) ((if b <= k /\ k<b+i then ((l.getD (k-b) 0:Nat):Int) else 0)-(if k<i then ((l.getD k 0:Nat):Int) else 0))
 | 0,k=>by
  rw [La (by omega),La (by omega)]
  exact Cg.of_eq rfl
 | i+1,k=>by
  have ih:=p8 hp hb l i;rw [gg];simp only [df];by_cases h1:k=b+i
  ·subst h1
   rw [Qa rfl,La (by omega),Qa (by omega),DG]
   have h:=ih (b+i);rw [La (by omega)] at h
   refine (Cg.mod _).trans (Cg.trans (Cg.of_eq (Al _ _)) ?_);by_cases h2:b+i<i+1
   ·omega
   ·rw [La h2]
    rw [La (by omega)] at h
    exact (h.add Cg.rfl').trans (Cg.of_eq (by omega))
  ·rw [La h1]
   by_cases h2:k=i
   ·subst h2
    rw [Qa rfl,Qa (show k<k+1 by omega)]
    have h:=ih k;rw [La (by omega:¬k<k)] at h
    refine (Cg.mod _).trans (Cg.trans (Cg.of_eq (Al _ _)) ?_);have e:(if b <= k /\ k<b+(k+1) then ((l.getD (k-b) 0:Nat):Int) else 0)=(if b <= k /\ k<b+k then ((l.getD (k-b) 0:Nat):Int) else 0):=by
     by_cases h3:b <= k
     ·rw [Qa (by omega),Qa (by omega)]
     ·rw [La (by omega),La (by omega)]
    rw [e];exact (h.add (UC p _ hp)).trans (Cg.of_eq (by omega))
   ·rw [La h2]
    have h:=ih k;refine h.trans (Cg.of_eq ?_)
    congr 1
    ·by_cases h3:b <= k /\ k<b+i
     ·rw [Qa h3,Qa (by omega)]
     ·rw [La h3,La (by omega)]
    ·by_cases h3:k<i
     ·rw [Qa h3,Qa (by omega)]
     ·rw [La h3,La (by omega)]
theorem GV (p b i:Nat):(Jr p b).getD i 0=if i<b+1 then jQ p b i else 0:=Yk _ _ _
theorem LZ {p b:Nat} (hp:1<p) (hb:0<b) (m:List Nat) (i:Nat):∀ j,j<b -> Cg p ((Tj p (Jr p b) m (j+1)).getD i 0:Int) (-((m.getD i 0:Nat):Int))
 | 0,_=>by
  have hz:(Jr p b).getD 0 0=p-1:=by rw [GV,Qa (by omega)];rfl
  rw [Tj,du,wM,La (by omega),II,hz]
  have e0:(Tj p (Jr p b) m 0).getD i 0=0:=by rw [Tj];rfl
  rw [e0,Nat.sub_zero];refine (Cg.mod _).trans ?_;rw [Mk];refine (Cg.mod _).trans ?_;rw [ig];have h1:Cg p ((p-1:Nat):Int) (-1):=⟨1,by omega⟩
  exact ((Cg.rfl' (x:=((m.getD i 0:Nat):Int))).mul h1).trans (Cg.of_eq (by omega))
 | j+1,hj=>by
  have hz:(Jr p b).getD (j+1) 0=0:=by
   rw [GV,Qa (by omega),jQ,La (by omega),La (by omega)]
  rw [zC2 _ _ _ _ hz];exact (Cg.mod _).trans (LZ hp hb m i j (by omega))
theorem zC5 {p b:Nat} (hp:1<p) (hb:0<b) (m:List Nat) (i:Nat):Cg p ((Bk p (Jr p b) m).getD i 0:Int) ((if b <= i then ((m.getD (i-b) 0:Nat):Int) else 0)-((m.getD i 0:Nat):Int)):=by
 have hz:(Jr p b).getD b 0=1:=by rw [GV,Qa (by omega),jQ,La (by omega),Qa rfl]
 obtain ⟨c,rfl⟩:∃ c,b=c+1:=⟨b-1,by omega⟩
 rw [Bk,IV,Tj,du,wM,II,hz,Yr];have h:=LZ hp hb m i c (by omega)
 refine (Cg.mod _).trans (Cg.trans (Cg.of_eq (Al _ _)) ?_);by_cases h1:i<c+1
 ·rw [Qa h1,La (by omega)]
  exact (h.add Cg.rfl').trans (Cg.of_eq (by omega))
 ·rw [La h1,Qa (by omega)]
  exact (h.add (Cg.mod _)).trans (Cg.of_eq (by omega))
theorem OZ {p b:Nat} (hp:1<p) (hb:0<b) (m:List Nat) (i:Nat):(Bk p (Jr p b) m).getD i 0=gg p b m m.length i:=by
 refine Cg.eq (p:=p) ((zC5 hp hb m i).trans (Cg.trans (Cg.of_eq ?_) (p8 (by omega) hb m m.length i).symm)) (zC3 (by omega) _ _ _ _) (rD (by omega) _ _ _)
 congr 1
 ·by_cases h1:b <= i
  ·rw [Qa h1]
   by_cases h2:i<b+m.length
   ·rw [Qa ⟨h1,h2⟩]
   ·rw [La (by omega),oJ (by omega)];rfl
  ·rw [La h1,La (by omega)]
 ·by_cases h1:i<m.length
  ·rw [Qa h1]
  ·rw [La h1,oJ (by omega)];rfl
theorem dS {p a b:Nat}:∀ k,Cg p (nJ p a b k:Int) ((a:Int)*b^k)
 | 0=>Cg.of_eq (by rw [nJ,Int.pow_zero,Int.mul_one])
 | k+1=>by
  rw [nJ];refine (Cg.mod _).trans ?_;rw [ig,Xi,<- qo];exact (dS k).mul Cg.rfl'
theorem nR {p s n:Nat} (k:Nat):Cg p (qh p s n k:Int) ((s:Int)*(ye p n:Int)^k):=(dS k).trans ((Cg.mod s).mul Cg.rfl')
theorem BR (a:Nat -> Int) (x:Int):∀ n,Cb a x (n+1)=a 0+x*Cb (fun i=>a (i+1)) x n
 | 0=>by simp [Cb]
 | n+1=>by
  rw [Cb,BR a x n,Cb,Xi]
  grind
theorem OS {p x:Nat}:∀ l:List Nat,Cg p (Xs p x l:Int) (Cb (fun i=>((l.getD i 0:Nat):Int)) (x:Int) l.length)
 | []=>Cg.rfl'
 | c :: l=>by
  rw [Xs,jf,BR];refine (Cg.mod _).trans (Cg.trans (Cg.of_eq (Al _ _)) ?_);refine (((Cg.mod (Xs p x l*x)).trans (Cg.trans (Cg.of_eq (ig _ _)) ((OS l).mul Cg.rfl'))).add Cg.rfl').trans (Cg.of_eq ?_);show Cb (fun i=>((l.getD i 0:Nat):Int)) (x:Int) l.length*(x:Int)+c=(c:Int)+x*Cb (fun i=>((l.getD i 0:Nat):Int)) (x:Int) l.length
  rw [Yj,Int.add_comm]
theorem X4 {p x:Nat}:∀ k,Cg p (Eg p x k:Int) ((x:Int)^k)
 | 0=>Cg.rfl'
 | k+1=>by
  rw [Eg];refine (Cg.mod _).trans ?_;rw [ig,Xi];exact (X4 k).mul Cg.rfl'
theorem DX {p x:Nat} (l:List Nat):∀ k,Cg p (evS p l (Eg p x) k:Int) (Cb (fun i=>((l.getD i 0:Nat):Int)) (x:Int) k)
 | 0=>Cg.rfl'
 | k+1=>by
  rw [evS,Cb];refine (Cg.mod _).trans (Cg.trans (Cg.of_eq (Al _ _)) ?_);refine (DX l k).add ((Cg.mod _).trans ?_);rw [ig];exact Cg.rfl'.mul (X4 k)
theorem jJ {p x:Nat} (l:List Nat):Cg p (Xc p l x:Int) (Cb (fun i=>((l.getD i 0:Nat):Int)) (x:Int) l.length):=DX l _
theorem ou {p:Nat} (hp:0<p) (l:List Nat) (x:Nat):Xc p l x<p:=by
 rw [Xc];cases l.length with
 | zero=>exact hp
 | succ k=>exact ic _ hp
theorem zCi {p n i:Nat} {w v:Int} (h1:Cg p (w^n) 1) (h2:Cg p (w*v) 1) (hi:i<n):Cg p (w^((n-i)%n)) (v^i):=by
 have h3:Cg p (w^((n-i)%n)*w^i) 1:=by
  rcases xo i with h | h
  ·subst h
   rw [Nat.sub_zero,Nat.mod_self];exact Cg.of_eq (by simp)
  ·rw [Fj (by omega),<- Int.pow_add,show n-i+i=n by omega]
   exact h1
 have h4:=oO h2 i;have h5:Cg p (w^((n-i)%n)) (w^((n-i)%n)*(v^i*w^i)):=(Cg.of_eq (Int.mul_one _).symm).trans (Cg.rfl'.mul h4.symm);refine h5.trans ((Cg.of_eq ?_).trans ((h3.mul Cg.rfl').trans (Cg.of_eq (bn _))));rw [Yj (v^i),qo]
theorem JY {p j:Nat} (l:List Nat) (h:Ib p=true) (hn:dk p l.length) (hj:l.length=2^j) {i:Nat} (hi:i<l.length):lO p l 1 i=Im p l.length j l i:=by
 have hp:=Nb h;refine Cg.eq (p:=p) ?_ (ic _ (by omega)) (ic _ (by omega))
 refine Cg.trans ?_ (mO l h hn hj hi).symm;refine (Cg.mod _).trans ?_;rw [ig,Yj];have e1:(1%p)^(p-2)%p=1:=by rw [Fj (show 1<p by omega),Nat.one_pow,Fj (by omega)]
 rw [e1];refine Cg.mul ((dS i).trans (Cg.of_eq ?_)) ?_
 ·rw [show ((1:Nat):Int)=1 from rfl,Int.one_pow,Int.mul_one]
 ·rw [intE]
  refine (OS l).trans (Co (fun _=>Cg.rfl') ?_ _)
  refine (nR _).trans (Cg.trans (Cg.of_eq ?_) (zCi (EP h hn) (iT h hn) hi));exact bn _
def fA (L:Ra) (msg af:List Nat):List Nat:=(List.range (L.block+af.length)).map (Fu L msg af)
def bD (L:Ra) (q:List Nat):List Nat:=(List.range (L.block+q.length)).map (gg L.p L.block q q.length)
theorem zFm {L:Ra} (hL:Rb L) {msg af:List Nat} (h1:msg.length=L.block) (h2:af.length=L.queries):qM L msg af=fA L msg af:=by
 have hp:=Nb hL.p;have hb:=hL.b1;have hk:=hL.k;obtain ⟨hlen,j,hj⟩:=oy hL;have yu:L.block.log2=j:=by rw [hj];exact Nat.log2_two_pow
 have Jl:(qM L msg af).length=L.block+af.length:=by
  rw [qM,WJ];have h3:=sx L.p ((List.range msg.length).map (lO L.p msg 1)) (Bk L.p (Jr L.p L.block) af);have h4:=SL L.p (Jr L.p L.block) af;rw [IV] at h4;rw [fk,nm] at h3;omega
 refine tF (by rw [Jl,fA,fk,nm]) fun i hi=>?_
 rw [Jl] at hi;rw [qM,VJ,du,Yk,OZ (by omega) (by omega),fA,Yk,Qa hi,Fu,DF]
 by_cases h3:i<L.block
 ·rw [Qa (by omega),Qa h3,yu,JY (j:=j) msg hL.p (by rw [h1];exact hlen) (by rw [h1];exact hj) (by omega),h1,Nat.add_comm]
 ·rw [La (by omega),La h3,Mk]
  exact Fj (rD (by omega) _ _ _)
theorem vP {L:Ra} (hL:Rb L) {q:List Nat} (h:q.length=L.block+2*L.queries-1):ow L q=bD L q:=by
 have hp:=Nb hL.p;have hb:=hL.b1;have hk:=hL.k;have Jl:(ow L q).length=L.block+q.length:=by
  rw [ow,WJ];have h4:=SL L.p (Jr L.p L.block) q;rw [IV] at h4;omega
 refine tF (by rw [Jl,bD,fk,nm]) fun i hi=>?_
 rw [Jl] at hi;rw [ow,VJ,OZ (by omega) (by omega),bD,Yk,Qa hi]
theorem CX {p nb:Nat} (A B:Nat -> Nat) (x:Int):∀ n,Cg p (Cb (fun k=>(DF p nb A B k:Int)) x n) (Cb (fun k=>(A k:Int)) x n+Cb (fun k=>(B k:Int)) x (min n nb))
 | 0=>by rw [Nat.zero_min];exact Cg.rfl'
 | n+1=>by
  have ih:=CX A B x (p:=p) (nb:=nb) n;rw [Cb,Cb];by_cases h:n<nb
  ·rw [show min (n+1) nb=n+1 by omega,Cb,DF,Qa h]
   rw [show min n nb=n by omega] at ih
   refine (ih.add (((Cg.mod (A n+B n)).trans (Cg.of_eq (Al _ _))).mul (Cg.rfl' (x:=x^n)))).trans (Cg.of_eq ?_);rw [Int.add_mul];omega
  ·rw [show min (n+1) nb=nb by omega,DF,La h]
   rw [show min n nb=nb by omega] at ih
   exact (ih.add Cg.rfl').trans (Cg.of_eq (by omega))
theorem xR (f:Nat -> Nat) (x:Int) (n:Nat):Cb (fun i=>((((List.range n).map f).getD i 0:Nat):Int)) x n=Cb (fun i=>(f i:Int)) x n :=
 yR x n fun i hi=>by rw [Yk,Qa hi]
theorem CU {p n:Nat} (h:Ib p=true) (hn:dk p n) (k:Nat):Cg p (((ye p n:Int)^k)^n) 1:=by
 rw [<- ph,Fe,ph];exact ((EP h hn).pow k).trans (Cg.of_eq Int.one_pow)
theorem cL {p n k:Nat}:Cg p (qh p 1 n k:Int) ((ye p n:Int)^k):=nR k |>.trans (Cg.of_eq (bn _))
theorem fZ {p:Nat} {x:Int} (h:Cg p x 1):Cg p (x-1) 0:=by
 obtain ⟨c,hc⟩:=h;exact ⟨c,by rw [<- hc];omega⟩
theorem zFn {L:Ra} (hL:Rb L) {msg af:List Nat} (hm:∀ i,msg.getD i 0<L.p) {k:Nat} (hk:k<L.block):Xc L.p (fA L msg af) (qh L.p 1 L.block k)=msg.getD k 0:=by
 have hp:=Nb hL.p;obtain ⟨hlen,j,hj⟩:=oy hL;have yu:L.block.log2=j:=by rw [hj];exact Nat.log2_two_pow
 refine Cg.eq (p:=L.p) ?_ (ou (by omega) _ _) (hm k)
 refine (jJ _).trans ?_;have hl:(fA L msg af).length=L.block+af.length:=by rw [fA,fk,nm]
 rw [hl,fA,xR];refine (Co (fun _=>Cg.rfl') cL _).trans ?_
 refine (CX _ _ _ _).trans ?_;rw [show min (L.block+af.length) L.block=L.block by omega]
 have hv:=oV (p:=L.p) (b:=L.block) (by omega) af ((ye L.p L.block:Int)^k) af.length af.length zR
 have h0:Cg L.p (((ye L.p L.block:Int)^k)^L.block-1) 0:=fZ (CU hL.p hlen k);have hi:=eT (q:=k) msg hL.p hlen hj hk;rw [yu];refine ((hv.trans (h0.mul Cg.rfl')).add hi).trans (Cg.of_eq ?_);rw [Int.zero_mul,Int.zero_add]
theorem zEM {L:Ra} (hL:Rb L) (q:List Nat) (k:Nat):Xc L.p (bD L q) (qh L.p 1 L.block k)=0:=by
 have hp:=Nb hL.p;obtain ⟨hlen,j,hj⟩:=oy hL;refine Cg.eq (p:=L.p) ?_ (ou (by omega) _ _) (by omega)
 refine (jJ _).trans ?_;have hl:(bD L q).length=L.block+q.length:=by rw [bD,fk,nm]
 rw [hl,bD,xR];refine (Co (fun _=>Cg.rfl') cL _).trans ?_
 have hv:=oV (p:=L.p) (b:=L.block) (by omega) q ((ye L.p L.block:Int)^k) q.length q.length zR
 have h0:Cg L.p (((ye L.p L.block:Int)^k)^L.block-1) 0:=fZ (CU hL.p hlen k);refine (hv.trans (h0.mul Cg.rfl')).trans (Cg.of_eq ?_);rw [Int.zero_mul]
 rfl
def QF (p:Nat) (f:Nat -> Nat):Nat -> Nat
 | 0=>0
 | k+1=>(QF p f k+f k)%p
theorem TP {p:Nat} (f:Nat -> Nat):∀ k,Cg p (QF p f k:Int) (Na (fun i=>(f i:Int)) k)
 | 0=>Cg.rfl'
 | k+1=>by
  rw [QF,Na];exact (Cg.mod _).trans (Cg.trans (Cg.of_eq (Al _ _)) ((TP f k).add Cg.rfl'))
theorem B7 {p:Nat} (hp:0<p) (f:Nat -> Nat):∀ k,QF p f k<p
 | 0=>hp
 | _+1=>ic _ hp
theorem Z4 {p n:Nat} {x:Int} (h:Cg p (x^n) 1) (i:Nat):Cg p (x^i) (x^(i%n)):=by
 have e:=au i n;rw [<- e];rw [Int.pow_add,ph,Nat.mul_add_mod,Nat.mod_mod];exact ((h.pow _).mul Cg.rfl').trans (Cg.of_eq (by rw [Int.one_pow,bn]))
theorem zDp {p n:Nat} (h:Ib p=true) (hn:dk p n) (i:Nat):Cg p (Cb (fun _=>1) ((ye p n:Int)^i) n) (if i%n=0 then (n:Int) else 0):=by
 obtain ⟨j,hj⟩:=hn.two;have h1:=Z4 (EP h hn) i;refine (Co (fun _=>Cg.rfl') h1 n).trans ?_
 split
 ·rename_i h0
  rw [h0,Int.pow_zero];exact Cg.of_eq (wR n)
 ·rename_i h0
  have ra:i%n<n:=ic _ hn.pos;rcases DP h hn hj with h2 | h2
  ·subst h2
   rw [hj] at h0 ra;omega
  ·have:=DU (p:=p) (j:=j) (d:=i%n) h2 (by omega) (by rw [<- hj];exact ra)
   rw [<- hj] at this;exact this
theorem zFY {p n m:Nat} (h:Ib p=true) (hn:dk p n) (a:Nat -> Int):Cg p (Na (fun k=>Cb a ((ye p n:Int)^k) m) n) ((n:Int)*Na (fun i=>if i%n=0 then a i else 0) m):=by
 have e1:Na (fun k=>Cb a ((ye p n:Int)^k) m) n=Na (fun i=>a i*Cb (fun _=>1) ((ye p n:Int)^i) n) m:=by
  have e2:(fun k=>Cb a ((ye p n:Int)^k) m)=fun k=>Na (fun i=>a i*((ye p n:Int)^k)^i) m:=by funext k;rw [uv]
  rw [e2,CA]
  congr 1
  funext i
  rw [uv,Ey]
  congr 1
  funext k
  rw [bn,<- ph,<- ph,Fe]
 rw [e1,Ey];refine ui m fun i _=>?_
 refine (Cg.rfl'.mul (zDp h hn i)).trans (Cg.of_eq ?_);split
 ·rw [Yj]
 ·rw [Int.mul_zero,Int.mul_zero]
theorem bV {g:Nat -> Int} {s:Nat}:∀ t,(∀ i,i<t -> g (s+i)=0) -> Na g (s+t)=Na g s
 | 0,_=>rfl
 | t+1,h=>by
  rw [<- Nat.add_assoc,Na,bV t fun i hi=>h i (by omega),h t (by omega)]
  omega
theorem C7 {n:Nat} (hn:0<n) (a:Nat -> Int):∀ q,Na (fun i=>if i%n=0 then a i else 0) (q*n+1)=a 0+Na (fun k=>a ((k+1)*n)) q
 | 0=>by
  rw [Nat.zero_mul];simp [Na]
 | q+1=>by
  have h1:=C7 hn a q;have h2:=bV (g:=fun i=>if i%n=0 then a i else 0) (s:=q*n+1) (n-1) fun i hi=>by
   rw [La];rw [show q*n+1+i=(1+i)+n*q by rw [Fe];omega,Nat.add_mul_mod_self_left,Fj (by omega)]
   omega
  rw [Nat.succ_mul,show q*n+n+1=(q*n+1+(n-1))+1 by omega,Na,h2,h1,show q*n+1+(n-1)=(q+1)*n by rw [Nat.succ_mul];omega,Na]
  rw [Qa (Nat.mul_mod_left _ _)];omega
theorem gZ {p b:Nat} (hp:0<p) (l:List Nat):∀ q,Cg p (py p b l q:Int) (-(Na (fun k=>((l.getD ((k+1)*b-1) 0:Nat):Int)) q))
 | 0=>Cg.rfl'
 | q+1=>by
  rw [py,Na];refine (Cg.mod _).trans (Cg.trans (Cg.of_eq (Al _ _)) ?_);exact ((gZ hp l q).add (UC p _ hp)).trans (Cg.of_eq (by omega))
theorem zCB {L:Ra} (hL:Rb L) (l:List Nat):QF L.p (fun k=>Xc L.p (bg L l) (qh L.p 1 L.block k)) L.block=0:=by
 have hp:=Nb hL.p;have hb:=hL.b1;obtain ⟨hlen,j,hj⟩:=oy hL;refine Cg.eq (p:=L.p) ?_ (B7 (by omega) _ _) (by omega)
 refine (TP _ _).trans ?_;refine (ui (g:=fun k=>Cb (fun i=>(((bg L l).getD i 0:Nat):Int)) ((ye L.p L.block:Int)^k) (bg L l).length) L.block fun k _=>(jJ _).trans (Co (fun _=>Cg.rfl') cL _)).trans ?_
 refine (zFY hL.p hlen _).trans ?_;have hl:(bg L l).length=l.length / L.block*L.block+1+l.length%L.block:=by
  have:=au l.length L.block;rw [bg,jf,Fe];omega
 have hf:=bV (g:=fun i=>if i%L.block=0 then (((bg L l).getD i 0:Nat):Int) else 0) (s:=l.length / L.block*L.block+1) (l.length%L.block) fun i hi=>by
  have hm:l.length%L.block<L.block:=ic _ (by omega)
  rw [La];rw [show l.length / L.block*L.block+1+i=(1+i)+L.block*(l.length / L.block) by rw [Fe];omega,Nat.add_mul_mod_self_left,Fj (by omega)]
  omega
 rw [hl,hf,C7 (by omega)]
 have e0:((((bg L l).getD 0 0:Nat):Int))=(py L.p L.block l (l.length / L.block):Int):=rfl;have e1:(fun k=>(((bg L l).getD ((k+1)*L.block) 0:Nat):Int))=fun k=>((l.getD ((k+1)*L.block-1) 0:Nat):Int):=by
  funext k
  have:0<(k+1)*L.block:=Nat.mul_pos (by omega) (by omega)
  obtain ⟨c,hc⟩:∃ c,(k+1)*L.block=c+1:=⟨(k+1)*L.block-1,by omega⟩
  rw [hc,bg,Nat.add_sub_cancel]
  rfl
 rw [e0,e1];refine (Cg.rfl'.mul (((gZ (by omega) l _).add Cg.rfl').trans (Cg.of_eq (Int.add_left_neg _)))).trans (Cg.of_eq ?_)
 rw [Int.mul_zero]
 rfl
theorem SV {p n:Nat} (hn:0<n) (l:List Nat) (s:Nat) (x:Int) (hx:Cg p (x^n) 1):∀ i,Cg p (Cb (fun k=>(El p n l s i k:Int)) x n) (Cb (fun k=>((l.getD k 0:Nat):Int)) ((s:Int)*x) i)
 | 0=>by
  refine Cg.of_eq ?_;show Cb (fun k=>((0:Nat):Int)) x n=0
  rw [uv,<- jD n]
  congr 1
  funext k
  simp
 | i+1=>by
  have ih:=SV hn l s x hx i;rw [El,BN _ _ _ _ _ (ic _ hn),Cb];refine ih.add ?_;have h1:Cg p (((El p n l s i (i%n)+l.getD i 0*yr p s i%p)%p:Nat)-(El p n l s i (i%n):Int)) (((l.getD i 0:Nat):Int)*(s:Int)^i):=by
   have h2:Cg p ((l.getD i 0*yr p s i%p:Nat):Int) (((l.getD i 0:Nat):Int)*(s:Int)^i):=(Cg.mod _).trans (Cg.trans (Cg.of_eq (ig _ _)) (Cg.rfl'.mul (oP p s i)));have h3:=((Cg.mod (p:=p) (El p n l s i (i%n)+l.getD i 0*yr p s i%p)).trans (Cg.trans (Cg.of_eq (Al _ _)) (Cg.rfl'.add h2))).add (Cg.rfl' (x:=-(El p n l s i (i%n):Int)));exact Cg.trans (Cg.of_eq (by omega)) (h3.trans (Cg.of_eq (by omega)))
  refine (h1.mul (Z4 hx i).symm).trans (Cg.of_eq ?_);rw [Int.mul_pow,qo]
theorem FR {p n j s k:Nat} (h:Ib p=true) (hn:dk p n) (hj:n=2^j) (l:List Nat) (hk:k<n):Kj p n j l s k=Xc p l (qh p s n k):=by
 have hp:=Nb h;refine Cg.eq (p:=p) ?_ (DN (by omega) _ _ _ _ _) (ou (by omega) _ _)
 have h1:=GN p (by omega) j (El p n l (s%p) l.length) (ye p n) (DP h hn hj) k (by rw [<- hj];exact hk)
 rw [<- hj] at h1;refine h1.trans ((SV hn.pos l _ _ (CU h hn k) _).trans (Cg.trans ?_ (jJ l).symm));exact Co (fun _=>Cg.rfl') ((((Cg.mod s).mul Cg.rfl')).trans (nR k).symm) _
def eH (p:Nat):List Nat :=
 if p=97 then [2,3] else if p=193 then [2,3] else if p=12289 then [2,3] else if p=18446744069414584321 then [2,3,5,17,257,65537] else [2]
theorem zBN {p:Nat} (h:Ib p=true):∀ q∈eH p,(p-1)%q=0 /\ zA p 64 (Mb p).1 ((p-1) / q)≠1 /\ zA p 64 (Mb p).1 ((p-1) / q)<p /\ (p-1) / q<2^64:=by
 rcases Bt h with rfl | rfl | rfl | rfl | rfl | rfl | rfl <;> decide +kernel
def DI:List (Nat × Nat) -> Nat
 | []=>1
 | (q,e) :: l=>q^e*DI l
def FN (p:Nat):List (Nat × Nat) :=
 if p=97 then [(2,5),(3,1)] else if p=193 then [(2,6),(3,1)] else if p=12289 then [(2,12),(3,1)] else if p=18446744069414584321 then [(2,32),(3,1),(5,1),(17,1),(257,1),(65537,1)] else [(2,(Mb p).2.1)]
theorem zBj {p:Nat} (h:Ib p=true):DI (FN p)=p-1 /\ ((FN p).map (·.1))=eH p:=by
 rcases Bt h with rfl | rfl | rfl | rfl | rfl | rfl | rfl <;> decide +kernel
theorem zBl {p q:Nat} (h:Ib p=true) (hq:q∈eH p):2 <= q /\ q <= 65537:=by
 have:∀ q∈eH p,2 <= q /\ q <= 65537:=by
  rcases Bt h with rfl | rfl | rfl | rfl | rfl | rfl | rfl <;> decide +kernel
 exact this q hq
theorem nU {p:Nat} {g:Int} (hg:∃ v,Cg p (g*v) 1):∀ (n a b:Nat),a+b <= n -> Cg p (g^a) 1 -> Cg p (g^b) 1 -> Cg p (g^Nat.gcd a b) 1
 | 0,a,b,h,ha,hb=>by
  have h1:a=0:=by omega
  have h2:b=0:=by omega
  subst h1 h2;exact ha
 | n+1,a,b,h,ha,hb=>by
  obtain ⟨v,hv⟩:=hg;rcases xo a with h0 | h0
  ·subst h0;rw [Nat.gcd_zero_left];exact hb
  rcases xo b with h1 | h1
  ·subst h1;rw [Nat.gcd_zero_right];exact ha
  have cancel:∀ s t:Nat,Cg p (g^(s+t)) 1 -> Cg p (g^s) 1 -> Cg p (g^t) 1:=fun s t h1 h2=>by
   rw [Int.pow_add] at h1;exact ((Cg.of_eq (bn _).symm).trans (h2.symm.mul Cg.rfl')).trans h1
  rcases Nat.le_total a b with qH | qH
  ·obtain ⟨d,rfl⟩:∃ d,b=a+d:=⟨b-a,by omega⟩
   have:=nU ⟨v,hv⟩ n a d (by omega) ha (cancel _ _ hb ha)
   rwa [Nat.gcd_self_add_right]
  ·obtain ⟨d,rfl⟩:∃ d,a=b+d:=⟨a-b,by omega⟩
   have:=nU ⟨v,hv⟩ n d b (by omega) (cancel _ _ ha hb) hb
   rwa [Nat.gcd_self_add_left]
theorem zEF:∀ (l:List (Nat × Nat)) (d:Nat),(∀ x∈l,∀ k,k∣x.1 -> k=1 \/ k=x.1) -> d∣DI l -> d≠DI l -> ∃ x∈l,d∣DI l / x.1
 | l,d,hp,hd,Ta=>by
  obtain ⟨m,hm⟩:=hd;have Gn:m≠1:=fun e=>by rw [e,Yr] at hm;exact Ta hm.symm
  have key:∀ (l':List (Nat × Nat)),(∀ x∈l',∀ k,k∣x.1 -> k=1 \/ k=x.1) -> (∀ x∈l',¬x.1∣m) -> Nat.Coprime m (DI l'):=by
   intro l'
   induction l' with
   | nil=>intro _ _;exact Nat.coprime_one_right m
   | cons x l' ih =>
    intro h1 h2;have hc:Nat.Coprime m x.1:=by
     rcases h1 x (.head _) (Nat.gcd m x.1) (Nat.gcd_dvd_right _ _) with e | e
     ·exact e
     ·exact absurd (e ▸ Nat.gcd_dvd_left m x.1) (h2 x (.head _))
    exact Nat.Coprime.mul_right (Nat.Coprime.pow_right _ hc) (ih (fun y hy=>h1 y (.tail _ hy)) fun y hy=>h2 y (.tail _ hy))
  by_cases hx:∃ x∈l,x.1∣m
  ·obtain ⟨x,DC,c,hc⟩:=hx
   refine ⟨x,DC,?_⟩;rcases xo x.1 with h0 | h0
   ·rw [h0,Nat.div_zero]
    exact Nat.dvd_zero _
   ·rw [hm,hc,<- Nat.mul_assoc,Fe d x.1,Nat.mul_assoc,Nat.mul_div_cancel_left _ h0]
    exact Nat.dvd_mul_right _ _
  ·have Nh:=key l hp fun x hx' hd'=>hx ⟨x,hx',hd'⟩
   have Mv:m∣DI l:=by rw [hm];exact Nat.dvd_mul_left _ _
   exact absurd (Nh.eq_one_of_dvd Mv) Gn
theorem W6:∀ q∈[2,3,5,17,257,65537],∀ k∈List.range 257,q%k=0 -> k=1 \/ k=q:=by decide +kernel
theorem zBk {p q:Nat} (h:Ib p=true) (hq:q∈eH p):∀ k,k∣q -> k=1 \/ k=q:=by
 have Kc:q∈[2,3,5,17,257,65537]:=by
  have:∀ q∈eH p,q∈[2,3,5,17,257,65537]:=by
   rcases Bt h with rfl | rfl | rfl | rfl | rfl | rfl | rfl <;> decide +kernel
  exact this q hq
 obtain ⟨h2,hle⟩:=zBl h hq;intro k ⟨c,hc⟩;rcases Hg k 257 with hk | hk
 ·exact W6 q Kc k (Uh.2 hk) (by rw [hc];exact Nat.mul_mod_right _ _)
 ·have Mh:c<257:=by
   rcases Hg c 257 with h' | h'
   ·exact h'
   ·have:=Nat.mul_le_mul hk h'
    omega
  rcases W6 q Kc c (Uh.2 Mh) (by rw [hc];exact Nat.mul_mod_left _ _) with h' | h'
  ·right;rw [hc,h',Yr]
  ·left
   rw [h'] at hc;have:q*1=q*k:=by rw [Yr,Fe];exact hc
   exact (Nat.eq_of_mul_eq_mul_left (by omega) this).symm
theorem eY {p k:Nat} (h:Ib p=true) (h0:0<k) (hk:k<p-1):¬Cg p (((Mb p).1:Int)^k) 1:=by
 intro hc;have hp:=Nb h;have hinv:∃ v,Cg p (((Mb p).1:Int)*v) 1:=⟨((Mb p).1:Int)^(p-2),by
  rw [Yj,<- Xi,show (p-2).succ=p-1 by omega]
  exact kH h⟩
 have hd:=nU hinv _ k (p-1) zR hc (kH h);have xH:Nat.gcd k (p-1)∣p-1:=Nat.gcd_dvd_right _ _;have hdk:Nat.gcd k (p-1) <= k:=Nat.le_of_dvd h0 (Nat.gcd_dvd_left _ _);obtain ⟨e1,e2⟩:=zBj h;have hmem:∀ x∈FN p,x.1∈eH p:=fun x hx=>by rw [<- e2];exact ld.2 ⟨x,hx,rfl⟩
 obtain ⟨x,hx,hdx⟩:=zEF (FN p) (Nat.gcd k (p-1)) (fun x hx=>zBk h (hmem x hx)) (by rw [e1];exact xH) (by rw [e1];omega)
 rw [e1] at hdx;obtain ⟨-,g1,g2,g3⟩:=zBN h x.1 (hmem x hx);have hs:=yM p 64 (Mb p).1 ((p-1) / x.1) g3;obtain ⟨c,zn⟩:=hdx;have h1:Cg p (((Mb p).1:Int)^((p-1) / x.1)) 1:=by
  rw [zn,ph];exact (hd.pow c).trans (Cg.of_eq Int.one_pow)
 exact g1 (Cg.eq (p:=p) (hs.trans h1) g2 (by omega))
theorem Q4:∀ (n:Nat) (f:Nat -> Nat),(∀ i,i<n+1 -> f i<n) -> (∀ i j,i<n+1 -> j<n+1 -> f i=f j -> i=j) -> False
 | 0,f,h,_=>absurd (h 0 (by omega)) (Nat.not_lt_zero _)
 | n+1,f,h,hi=>by
  have Ta:∀ i,i<n+1 -> f i≠f (n+1):=fun i h1 e=>by
   have:=hi i (n+1) (by omega) (by omega) e
   omega
  refine Q4 n (fun i=>if f i=n then f (n+1) else f i) (fun i h1=>?_) fun i j h1 h2 e=>?_
  ·split
   ·rename_i e
    have h3:=Ta i h1;have h4:=h (n+1) (by omega)
    omega
   ·have:=h i (by omega)
    omega
  ·change (if f i=n then f (n+1) else f i)=(if f j=n then f (n+1) else f j) at e
   by_cases e1:f i=n <;> by_cases e2:f j=n
   ·exact hi i j (by omega) (by omega) (by omega)
   ·rw [Qa e1,La e2] at e
    exact absurd e.symm (Ta j h2)
   ·rw [La e1,Qa e2] at e
    exact absurd e (Ta i h1)
   ·rw [La e1,La e2] at e
    exact hi i j (by omega) (by omega) e
theorem onto {n:Nat} {f:Nat -> Nat} (h:∀ i,i<n -> f i<n) (hi:∀ i j,i<n -> j<n -> f i=f j -> i=j) {y:Nat} (hy:y<n):∃ i,i<n /\ f i=y:=by
 refine RI fun zu=>?_
 have Ta:∀ i,i<n -> f i≠y:=fun i h1 e=>zu ⟨i,h1,e⟩
 obtain ⟨m,rfl⟩:∃ m,n=m+1:=⟨n-1,by omega⟩
 refine Q4 m (fun i=>if f i=m then y else f i) (fun i h1=>?_) fun i j h1 h2 e=>?_
 ·split
  ·rename_i e
   have:=Ta i h1;omega
  ·have:=h i h1
   omega
 ·change (if f i=m then y else f i)=(if f j=m then y else f j) at e
  by_cases e1:f i=m <;> by_cases e2:f j=m
  ·exact hi i j h1 h2 (by omega)
  ·rw [Qa e1,La e2] at e
   exact absurd e.symm (Ta j h2)
  ·rw [La e1,Qa e2] at e
   exact absurd e (Ta i h1)
  ·rw [La e1,La e2] at e
   exact hi i j h1 h2 e
theorem one_ne {p:Nat} (h:Ib p=true):¬Cg p (0:Int) 1:=by
 have hp:=Nb h;intro hc;have:=Cg.eq (p:=p) (a:=0) (b:=1) hc (by omega) (by omega)
 omega
theorem zBO {p a:Nat} (h:Ib p=true) (h0:0<a) (ha:a<p):∃ k,(Mb p).1^k%p=a:=by
 have hp:=Nb h;have Kl:∀ i,0<(Mb p).1^i%p:=fun i=>by
  rcases xo ((Mb p).1^i%p) with e | e
  ·exfalso
   have h1:Cg p (((Mb p).1:Int)^i) 0:=by
    have h2:=Cg.mod (p:=p) ((Mb p).1^i);rw [e,xp] at h2;exact h2.symm
   have h2:Cg p ((((Mb p).1:Int)^i)^(p-1)) 1:=by
    rw [<- ph,Fe,ph];exact ((kH h).pow i).trans (Cg.of_eq Int.one_pow)
   have h3:=(h1.pow (p-1)).symm.trans h2;rw [Int.zero_pow (by omega)] at h3
   exact one_ne h h3
  ·exact e
 obtain ⟨i,-,hi⟩:=onto (n:=p-1) (f:=fun i=>(Mb p).1^i%p-1) (fun i _=>by
   have:=Kl i;have:=ic ((Mb p).1^i) (show p > 0 by omega)
   show (Mb p).1^i%p-1<p-1
   omega) (fun i j h1 h2 e=>by
   have e':(Mb p).1^i%p=(Mb p).1^j%p:=by
    have:=Kl i;have:=Kl j;change (Mb p).1^i%p-1=(Mb p).1^j%p-1 at e
    omega
   have key:∀ i j,i<j -> j<p-1 -> (Mb p).1^i%p=(Mb p).1^j%p -> False:=fun i j hij hj e=>by
    have c1:Cg p (((Mb p).1:Int)^i) (((Mb p).1:Int)^j):=by
     have h1:=Cg.mod (p:=p) ((Mb p).1^i);have h2:=Cg.mod (p:=p) ((Mb p).1^j);rw [e] at h1;rw [xp] at h1 h2;exact h1.symm.trans h2
    obtain ⟨d,rfl⟩:∃ d,j=i+d:=⟨j-i,by omega⟩
    rw [Int.pow_add] at c1;have c2:Cg p (((Mb p).1:Int)^(i*(p-2))*((Mb p).1:Int)^i) 1:=by
     rw [<- Int.pow_add,show i*(p-2)+i=(p-1)*i by
      rw [Fe (p-1),<- Nat.mul_succ]
      congr 1
      omega,ph]
     exact ((kH h).pow i).trans (Cg.of_eq Int.one_pow)
    have c3:=(Cg.rfl' (x:=((Mb p).1:Int)^(i*(p-2)))).mul c1;rw [<- qo] at c3;have c4:Cg p (((Mb p).1:Int)^d) 1:=((Cg.of_eq (bn _).symm).trans (c2.symm.mul Cg.rfl')).trans (c3.symm.trans c2);exact eY h (by omega) (by omega) c4
   rcases Nat.lt_trichotomy i j with ra | heq | hgt
   ·exact absurd e' fun e=>key i j ra h2 e
   ·exact heq
   ·exact absurd e'.symm fun e=>key j i hgt h1 e) (y:=a-1) (by omega)
 refine ⟨i,?_⟩;have:=Kl i;change (Mb p).1^i%p-1=a-1 at hi
 omega
theorem zCh {p a:Nat} (h:Ib p=true) (h0:0<a) (ha:a<p):Cg p ((a:Int)*((a^(p-2)%p:Nat):Int)) 1:=by
 have hp:=Nb h;obtain ⟨k,hk⟩:=zBO h h0 ha;have h1:Cg p (a:Int) (((Mb p).1:Int)^k):=by
  have:=Cg.mod (p:=p) ((Mb p).1^k);rw [hk,xp] at this;exact this
 refine (Cg.rfl'.mul (Cg.mod _)).trans ?_;rw [xp,Yj,<- Xi,show (p-2).succ=p-1 by omega]
 refine (h1.pow _).trans ?_;rw [<- ph,Fe,ph];exact ((kH h).pow k).trans (Cg.of_eq Int.one_pow)
theorem zCe {p a:Nat} (h:Ib p=true) (h0:¬Cg p (a:Int) 0):Cg p ((a:Int)*((a^(p-2)%p:Nat):Int)) 1:=by
 have hp:=Nb h;have h1:a%p≠0:=fun e=>h0 (by
  have:=Cg.mod (p:=p) a;rw [e] at this;exact this.symm)
 have:=zCh h (Nat.pos_of_ne_zero h1) (ic a (by omega))
 rw [<- Nat.pow_mod] at this;exact ((Cg.mod a).symm.mul Cg.rfl').trans this
theorem zCg {p:Nat} {x:Int} (h:Ib p=true) (h0:¬Cg p x 0):∃ v,Cg p (x*v) 1:=by
 have hp:=Nb h;obtain ⟨a,ha⟩:∃ a:Nat,(a:Int)=x%(p:Int):=⟨(x%(p:Int)).toNat,Int.toNat_of_nonneg (Int.emod_nonneg _ (by omega))⟩
 have hx:Cg p x (a:Int):=⟨x / (p:Int),by rw [ha];have:=Int.mul_ediv_add_emod x (p:Int);omega⟩
 exact ⟨_,(hx.mul Cg.rfl').trans (zCe h fun e=>h0 (hx.trans e))⟩
theorem zC6 {p:Nat} {x y:Int} (h:Ib p=true) (hxy:Cg p (x*y) 0):Cg p x 0 \/ Cg p y 0:=by
 by_cases hx:Cg p x 0
 ·exact .inl hx
 ·obtain ⟨v,hv⟩:=zCg h hx
  refine .inr ?_;have h1:Cg p y (v*(x*y)):=(Cg.of_eq (bn y).symm).trans ((hv.symm.mul Cg.rfl').trans (Cg.of_eq (by rw [Yj x v,qo])))
  exact h1.trans ((Cg.rfl'.mul hxy).trans (Cg.of_eq (Int.mul_zero _)))
theorem zAI (B:Nat) (v:List Nat) (n:Nat):(Is B v n).length=n:=by simp [Is]
theorem ov (B:Nat) (l:Nat -> List Nat) (ps:Nat -> Nat):∀ i,(Pk B l ps (i+1)).length=(Pk B l ps i).length+ps i:=fun i=>by rw [ZK,Kf,zAI]
theorem MO (L:Ra) (rows:List Ya) (ws:List Nat) (pu:Nat):(tj L rows ws pu).length=L.a+L.b+L.b+L.b:=by
 unfold tj Gp;rw [ov,ov,ov,ov];show 0+L.a+L.b+L.b+L.b=_
 omega
theorem pN {B:Nat} {l:Nat -> List Nat} {ps:Nat -> Nat} {r:List Nat} (h:r∈Gp B l ps):∃ i k,i<4 /\ k<ps i /\ r=Bq B (l i) k:=by
 unfold Gp Pk at h;obtain ⟨i,hi,hr⟩:=List.mem_flatMap.1 h;obtain ⟨k,hk,rfl⟩:=ld.1 hr;exact ⟨i,k,Uh.1 hi,Uh.1 hk,rfl⟩
theorem FZ {L:Ra} {rows:List Ya} {ws:List Nat} {pu:Nat} {r:List Nat} (h:r∈tj L rows ws pu):r.length=L.block:=by
 obtain ⟨i,k,-,-,rfl⟩:=pN h;simp [Bq]
theorem zv {l:List Nat} {p:Nat} (hp:0<p) (h:∀ x∈l,x<p) (i:Nat):l.getD i 0<p:=by
 rw [Jb];cases e:l[i]? with
 | none=>exact hp
 | some x=>exact h x (List.mem_of_getElem? e)
theorem zC1 {L:Ra} {rows:List Ya} {ws:List Nat} {pu:Nat} (hp:0<L.p) (hw:∀ x∈ws,x<L.p) {r:List Nat} (h:r∈tj L rows ws pu) (j:Nat):r.getD j 0<L.p:=by
 obtain ⟨i,k,hi,-,rfl⟩:=pN h;rw [Bq,Yk];split
 ·refine zv hp ?_ _
  rcases (show i=0 \/ i=1 \/ i=2 \/ i=3 by omega) with rfl | rfl | rfl | rfl
  ·exact fun x hx=>hw x (List.mem_of_mem_drop hx)
  all_goals
   intro x hx;obtain ⟨r,-,rfl⟩:=ld.1 hx;exact mZ hp _ _
 ·exact hp
def MF (p:Nat) (a b:List Nat):List Nat:=xq p a (Dr p b (Rf p 1))
def ju (p:Nat) (rows:List (List Nat)) (al:Nat):Nat -> List Nat
 | 0=>[]
 | i+1=>xq p (ju p rows al i) (Dr p (rows.getD i []) (Eg p al (i+1)))
def wt (p:Nat) (rows ws:List (List Nat)):Nat -> List Nat
 | 0=>[]
 | i+1=>xq p (wt p rows ws i) (Bk p (ws.getD i []) (rows.getD i []))
def jH (p a b:Nat) (rows:List (List Nat)) (j:Nat):List Nat:=MF p (Bk p (rows.getD (a+j) []) (rows.getD (a+b+j) [])) (rows.getD (a+b+b+j) [])
def Un (p a b:Nat) (rows:List (List Nat)) (be:Nat):Nat -> List Nat
 | 0=>[]
 | j+1=>xq p (Un p a b rows be j) (Dr p (jH p a b rows j) (Eg p be (j+1)))
theorem pJ {rows:List (List Nat)} {M:Nat} (h:∀ r∈rows,r.length <= M) (i:Nat):(rows.getD i []).length <= M:=by
 rw [Jb];by_cases hi:i<rows.length
 ·rw [oc hi];exact h _ (wg hi)
 ·rw [Xr (by omega)];exact Lb _
theorem YW {p al M:Nat} {rows:List (List Nat)} (h:∀ r∈rows,r.length <= M):∀ i,(ju p rows al i).length <= M
 | 0=>Lb _
 | i+1=>by
  have h1:=sx p (ju p rows al i) (Dr p (rows.getD i []) (Eg p al (i+1)));have h2:=dK p (rows.getD i []) (Eg p al (i+1));have h3:=YW (p:=p) (al:=al) h i;have h4:=pJ h i;rw [ju];omega
theorem iZ {p M m:Nat} {rows ws:List (List Nat)} (h:∀ r∈rows,r.length <= M) (h2:∀ r∈ws,r.length <= m):∀ i,(wt p rows ws i).length <= m-1+M
 | 0=>Lb _
 | i+1=>by
  have h3:=sx p (wt p rows ws i) (Bk p (ws.getD i []) (rows.getD i []));have h4:=SL p (ws.getD i []) (rows.getD i []);have h5:=iZ (p:=p) h h2 i;have h6:=pJ h i;have h7:=pJ h2 i;rw [wt];omega
theorem zFV (p:Nat) (a b:List Nat):(MF p a b).length <= max a.length b.length:=by
 have h1:=sx p a (Dr p b (Rf p 1));have h2:=dK p b (Rf p 1);unfold MF;omega
theorem zBK {p a b M:Nat} {rows:List (List Nat)} (h:∀ r∈rows,r.length <= M) (j:Nat):(jH p a b rows j).length <= M-1+M:=by
 have h1:=zFV p (Bk p (rows.getD (a+j) []) (rows.getD (a+b+j) [])) (rows.getD (a+b+b+j) []);have h2:=SL p (rows.getD (a+j) []) (rows.getD (a+b+j) []);have h3:=pJ h (a+j);have h4:=pJ h (a+b+j);have h5:=pJ h (a+b+b+j);unfold jH;omega
theorem D5 {p a b be M:Nat} {rows:List (List Nat)} (h:∀ r∈rows,r.length <= M):∀ i,(Un p a b rows be i).length <= M-1+M
 | 0=>Lb _
 | i+1=>by
  have h1:=sx p (Un p a b rows be i) (Dr p (jH p a b rows i) (Eg p be (i+1)));have h2:=dK p (jH p a b rows i) (Eg p be (i+1));have h3:=D5 (p:=p) (a:=a) (b:=b) (be:=be) h i;have h4:=zBK (p:=p) (a:=a) (b:=b) h i;rw [Un];omega
theorem gS {rows:List (List Nat)} {i:Nat} (h:i<rows.length):rows.getD i []=rows[i]:=by rw [Jb,oc h];rfl
def kK (p:Nat) (a b:List (List Nat)):Nat -> Nat
 | 0=>0
 | k+1=>(kK p a b k+nu p (a.getD k []) (b.getD k []) (a.getD k []).length)%p
end Go.Proofs.YteoghgbnielkpaaGreat
