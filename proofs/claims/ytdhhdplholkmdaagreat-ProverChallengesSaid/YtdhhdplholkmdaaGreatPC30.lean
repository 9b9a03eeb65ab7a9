/- A part of the proof. No condition. -/
import Derived.Test.YtdhhdplholkmdaaGreatProg
import Derived.Test.YtdhhdplholkmdaaGreatPC22
import Derived.Test.YtdhhdplholkmdaaGreatPC19

namespace Go.Proofs.YtdhhdplholkmdaaGreat
open Go.RowKit Go.Maps
structure TreeOk (d:Nat) (ls:List (List Nat)):Prop where
 d10:d≤10
 len:ls.length=d+1
 at_:∀ k,k≤d→(ls.getD k []).length=2^(d-k)
end Go.Proofs.YtdhhdplholkmdaaGreat
namespace Go.Proofs.YtdhhdplholkmdaaGreat
open Go.RowKit Go.Maps
theorem UQ {w w3:World} {g gr:Nat} {O:Orc} {F F':Nat→Prop} {t:TypeId} {c0 c1 x y:Value} (m:Moved F F' w w3) (hg:w.heap.size≤gr) (h:OrcAt w3 g O F') (hn:¬F' gr) (k:Blk w3 gr t #[c0,c1]) :
  OrcAt ((w3.setCell ⟨gr,0,none⟩ x).setCell ⟨gr,1,none⟩ y) g O F'∧Moved F F' w ((w3.setCell ⟨gr,0,none⟩ x).setCell ⟨gr,1,none⟩ y)∧Blk ((w3.setCell ⟨gr,0,none⟩ x).setCell ⟨gr,1,none⟩ y) gr t #[x,y] :=
 ⟨(h.set hn x).set hn y,Zy (Zy m hg 0 x) hg 1 y,by have:=Uz k 0 1 x y;simpa using this⟩
theorem yV (w:World) (x y:Nat):(w.alloc (.cells #[.int .u64 (x:Int), .int .u64 (y:Int)] 22)).ownsRow w.heap.size 22 1 (.slice (some ⟨w.heap.size,0,none⟩) 2 2) 2 (U64 [x,y]) :=
 ⟨rfl, .inr ⟨w.heap.size,2,_,rfl,Nat.le_refl _,heap_alloc_new w _,Nat.le_refl _,by simp [maxLen],rfl,rfl⟩⟩
set_option maxRecDepth 100000 in
set_option maxHeartbeats 400000 in
theorem zEr (label:Nat) (w:World) :
  Calls Tryz.prog 118 #[.int .u64 (label:Int)] w fun e w'=>e= .returned (.agg #[.int .u64 (label:Int), .int .u64 0])∧Below w.heap.size w w':=by
 have k2:=Blk.new w 120 #[.int .u64 (label:Int), .int .u64 0]
 have hb2:=(Below.refl w.heap.size w).alloc (Nat.le_refl _) (.cells #[.int .u64 (label:Int), .int .u64 0] 120)
 have c0:=k2.cell 0
 have c1:=k2.cell 1
 go_enter Tryz.func118,Tryz.ntmps118
 go_wp2_with fail
 generalize w.alloc _=w1 at k2 hb2 c0 c1 ⊢
 exact bodyPost_ret (v:=.agg #[.int .u64 (label:Int), .int .u64 0]) (by simp [results,Tryz.results118,go_sem,c0,c1]) rfl ⟨rfl,hb2⟩
set_option maxRecDepth 100000 in
set_option maxHeartbeats 1000000 in
theorem UP {w:World} {g:Nat} {O:Orc} {F K:Nat→Prop} (h:OrcAt w g O F) (st ct tag:Nat) (A:Option Addr) (n c:Nat) (l:List Nat) (hl:KRd K w (.slice A n c) l) (hlen:l.length≤100000) (hst:st<18446744073709551616) (htag:tag<18446744073709551616) (hO:YX O 1000000) :
  Calls Tryz.prog 115 #[.pointer (some ⟨g,0,none⟩), .agg #[.int .u64 (st:Int), .int .u64 (ct:Int)], .int .u64 (tag:Int), .slice A n c] w fun e w' =>
   e= .returned (.agg #[.int .u64 (Yl O 18 (st :: tag :: l):Int), .int .u64 0])∧∃ F',OrcAt w' g (Z3 O 18 (st :: tag :: l)) F'∧Moved F F' w w':=by
 obtain ⟨kx,kr,hb0,hsz⟩:=Xn w 120 120 #[.int .u64 (st:Int), .int .u64 (ct:Int)] #[.int .u64 0, .int .u64 0]
 have H:=Lib.hid h
 have hrd:=(YY (VB hl)).2.2.2.2
 have hl64:=(YY (VB hl)).2.2.2.1
 have hn:=(YY (VB hl)).1
 subst hn
 have H64:=Lib.hid (YJ hst (YJ htag hl64))
 have HLEN:=Lib.hid hlen
 have HO:=Lib.hid hO
 have HRD:=Lib.hid hrd
 clear h hl hrd hl64 hst htag hO
 go_enter Tryz.func115,Tryz.ntmps115
 go_upto_region 1 with fail
 generalize (w.alloc _).alloc _=w1 at kx kr hb0 hsz ⊢
 have hcx:=kx.cell
 have hown:=yV w1 st tag
 have hal:=(Below.refl w1.heap.size w1).alloc (Nat.le_refl _) (.cells #[.int .u64 (st:Int), .int .u64 (tag:Int)] 22)
 have hrd2:=(HRD.out.below hb0).below hal
 have hgs:w.heap.size+1<w1.heap.size:=kr.lt
 clear hsz
 go_wp2_with (at_builtin;refine ZW rfl _ _ rfl Gu rfl hown rfl hrd2 (YW _) (by omega) (by simp) ?_)
 intro v' w2 hown2 hgrow hblk
 have hb2:Below w1.heap.size w1 w2:=hal.trans (YD hown hgrow (by simp))
 have hkr:=Gl (l:=st :: tag :: l) (UV (c:=st :: tag :: l) hown2 rfl) H64.out
 have kx2:=kx.below hb2 kx.lt
 have kr2:=kr.below hb2 kr.lt
 have hb3:=Za hb0 hb2
 have H2:=Lib.hid (H.out.below hb3)
 have HVB:=Lib.hid (show ∀ b,v'.ownBlock=some b→¬F b from fun b hb hf=>by
  have:=H.out.lt b hf
  have:=(hown2.lt b hb).1
  omega)
 have hv2:∃ A' c',v'= .slice A' (2+l.length) c':=by obtain ⟨A',c',e,-⟩:=Yd hown2;exact ⟨A',c',e⟩
 obtain ⟨Av,cv,rfl⟩:=hv2
 have HASH:=Lib.hid (xF H2.out 18 (st :: tag :: l) Av (2+l.length) cv hkr HVB.out (by decide) (by simp;omega) (.inl (by simp)) HO.out.1 HO.out.2)
 have M2:=Lib.hid (Zp (F:=F) hb3)
 have nF1:¬F (w.heap.size+1):=fun e=>by have:=H.out.lt _ e;omega
 clear hown2 hgrow hblk hown hal hrd2 hb2 kx2 hkr hb3 hb0 kx hcx kr
 go_wp2_with fail
 refine HASH.out.mono ?_
 rintro _ w3 ⟨rfl,F',h3,m3⟩
 have kr3:=kr2.moved m3 nF1
 have nF2:=Yu m3 kr2.lt nF1
 have hs3:=UQ (x:=.int .u64 (Yl O 18 (st :: tag :: l):Int)) (y:=.int .u64 0) (gr:=w.heap.size+1) (M2.out.trans m3) (by omega) h3 nF2 kr3
 have hf3:=kr3.frozen
 have hc3:=kr3.cell
 clear h3 m3 kr2
 go_wp2_with fail
 obtain ⟨s1,s2,s3⟩:=hs3
 generalize (w3.setCell _ _).setCell _ _=w4 at s1 s2 s3 ⊢
 have c0:=s3.cell 0
 have c1:=s3.cell 1
 exact bodyPost_ret (v:=.agg #[.int .u64 (Yl O 18 (st :: tag :: l):Int), .int .u64 0]) (by simp [results,Tryz.results115,go_sem,c0,c1]) rfl ⟨rfl,F',s1,s2⟩
set_option maxRecDepth 100000 in
set_option maxHeartbeats 1000000 in
theorem US {w:World} {g:Nat} {O:Orc} {F:Nat→Prop} (h:OrcAt w g O F) (st ct p:Nat) (hp:0<p) (hp64:p<18446744073709551616) (hst:st<18446744073709551616) (hct:ct<1000000000) (hO:YX O 1000000) :
  Calls Tryz.prog 116 #[.pointer (some ⟨g,0,none⟩), .agg #[.int .u64 (st:Int), .int .u64 (ct:Int)], .int .u64 (p:Int)] w fun e w' =>
   e= .returned (.tuple #[.int .u64 ((Yl O 19 [st,ct]%p:Nat):Int), .agg #[.int .u64 (st:Int), .int .u64 ((ct+1:Nat):Int)]])∧∃ F',OrcAt w' g (Z3 O 19 [st,ct]) F'∧Moved F F' w w':=by
 obtain ⟨kx,kr,hb0,hsz⟩:=Xn w 120 120 #[.int .u64 (st:Int), .int .u64 (ct:Int)] #[.int .u64 0, .int .u64 0]
 have H:=Lib.hid h
 have H64:=Lib.hid (show ∀ x∈[st,ct],x<18446744073709551616 from YJ hst (YJ (by omega) fun _ h=>nomatch h))
 have HO:=Lib.hid hO
 have d0:((p:Int) == 0)=false:=by rw [beq_eq_false_iff_ne];omega
 have HP64:=Lib.hid hp64
 have HP:=Lib.hid hp
 obtain ⟨c1,hc1⟩:∃ c1,c1=ct+1:=⟨_,rfl⟩
 have ec:IntKind.u64.wrap ((ct:Int)+1)=(c1:Int):=by rw [IntKind.wrap_u64];omega
 rw [←hc1]
 obtain ⟨av,hav⟩:∃ av,av=Yl O 19 [st,ct]:=⟨_,rfl⟩
 rw [←hav]
 obtain ⟨rv,hrv⟩:∃ rv,rv=av%p:=⟨_,rfl⟩
 have er:(av:Int).tmod (p:Int)=(rv:Int):=by rw [Int.tmod_eq_emod_of_nonneg (by omega),hrv];exact (Int.natCast_emod av p).symm
 rw [←hrv]
 have HAV:=Lib.hid hav
 have hp0:(p:Int)≠0:=by omega
 have hpn:¬(p=0):=by omega
 clear h hst hct hO hc1 hav hrv hp64
 go_enter Tryz.func116,Tryz.ntmps116
 go_upto_region 3 with fail
 generalize (w.alloc _).alloc _=w1 at kx kr hb0 hsz ⊢
 have hcx:=kx.cell
 have hal:=(Below.refl w1.heap.size w1).alloc (Nat.le_refl _) (.cells #[.int .u64 (st:Int), .int .u64 (ct:Int)] 22)
 have kp:=Blk.new w1 22 #[.int .u64 (st:Int), .int .u64 (ct:Int)]
 have hgs:w.heap.size+1<w1.heap.size:=kr.lt
 have nFp:¬F w1.heap.size:=fun e=>by have:=H.out.lt _ e;omega
 clear hsz
 have kx2:=kx.below hal kx.lt
 have kr2:=kr.below hal kr.lt
 have hb3:=Za hb0 hal
 have H2:=Lib.hid (H.out.below hb3)
 have HASH:=Lib.hid (xF H2.out 19 [st,ct] (some ⟨w1.heap.size,0,none⟩) 2 2 (zAo (l:=[st,ct]) kp rfl H64.out (by simp [maxLen])) (fun b hb=>by subst hb;exact nFp) (by decide) (by simp) (.inl (by simp)) HO.out.1 HO.out.2)
 rw [←HAV.out] at HASH
 have M2:=Lib.hid (Zp (F:=F) hb3)
 have nFx:¬F w.heap.size:=fun e=>by have:=H.out.lt _ e;omega
 have nF1:¬F (w.heap.size+1):=fun e=>by have:=H.out.lt _ e;omega
 have KX2:=Lib.hid kx2
 have KR2:=Lib.hid kr2
 clear hal kp kx2 kr2 hb3 hb0 kx kr
 go_wp2_with fail
 generalize w1.alloc _=w2 at H2 HASH M2 KX2 KR2 ⊢
 refine HASH.out.mono ?_
 rintro _ w3 ⟨rfl,F',h3,m3⟩
 have kx3:=KX2.out.moved m3 nFx
 have kr3:=KR2.out.moved m3 nF1
 have nF2:=Yu m3 KR2.out.lt nF1
 have MM:=Lib.hid (M2.out.trans m3)
 have H3:=Lib.hid h3
 clear h3 m3 HASH hcx
 have hcx:=kx3.cell
 have lx:=kx3.lt
 have nxr:w.heap.size≠w.heap.size+1:=by omega
 go_wp2_with fail
 obtain ⟨gr,hgr⟩:∃ gr,gr=w.heap.size+1:=⟨_,rfl⟩
 rw [←hgr] at kr3 nF2 nxr ⊢
 have HGR:=Lib.hid hgr
 clear hgr
 refine Zx (Vg gr) [10] [0,1,2,3,4,5,6,7,8,9,10] (by kernel_rfl) (by kernel_rfl) ?_
 refine ZY (Zc gr) ?_
 intro Wc HWc hacc
 have k3:Blk Wc gr 120 #[.int .u64 0, .int .u64 0]:=by rw [HWc.out];exact kr3.drew
 have h4:=UQ (x:=.int .u64 (st:Int)) (y:=.int .u64 (c1:Int)) (show Moved F F' w Wc by rw [HWc.out];exact YF MM.out) (by rw [HGR.out];omega) (show OrcAt Wc g (Z3 O 19 [st,ct]) F' by rw [HWc.out];exact H3.out.drew) nF2 k3
 have hf3:=k3.frozen
 have hc3:=k3.cell
 clear HWc
 repeat (first | (refine Zh (Zc gr) rfl rfl (fun _ _ _ h=>h) ?_;simp only [Act.put,zLa,zLb,zLc]) | (refine Ze (v:=?_) (Zc gr) rfl rfl (fun _ _ _ h=>h) ?_ ?_;rotate_left;(· (intro w' hR;(first | have hcells:=ZI ((Zc gr).trans _ _ _ hacc hR) | skip);go_simp;try with_reducible rfl));simp only [Act.put,zLa,zLb,zLc]))
 refine Zs (Zc gr) rfl rfl rfl ?_
 go_simp
 refine ⟨Jl Wc gr 0 1 (.int .u64 (st:Int)) (.int .u64 (c1:Int)),?_⟩
 obtain ⟨s1,s2,s3⟩:=h4
 try simp only [Act.put,zLa,zLb,zLc]
 generalize (Wc.setCell _ _).setCell _ _=w5 at s1 s2 s3 ⊢
 refine Zt ?_
 have c0:=s3.cell 0
 have c2:=s3.cell 1
 go_wp2
 exact bodyPost_ret (v:=.tuple #[.int .u64 (rv:Int), .agg #[.int .u64 (st:Int), .int .u64 (c1:Int)]]) (by simp [results,Tryz.results116,go_sem,c0,c2]) rfl ⟨rfl,F',s1,s2⟩
end Go.Proofs.YtdhhdplholkmdaaGreat
