/- A part of the proof. No condition. -/
import Derived.Test.YtbiieaiahdihnaaProg
import Derived.Test.YtbiieaiahdihnaaOP32
import Derived.Test.YtbiieaiahdihnaaOP39

namespace Go.Proofs.Ytbiieaiahdihnaa
open Go.RowKit Go.Maps
theorem UX {O:Orc} (h:OrcOk O) (hi:O.ideal=false) (lab:Nat) {el:List Nat} (he:ZB el=true):ZM O lab el=spH lab el:=by
 cases hf:ZH O.qs lab el with
 | none=>exact (Jt he hf hi).1
 | some a =>
  rw [(Jv he hf).1]
  unfold ZH at hf
  cases hc:O.qs.find? (qIs lab el) with
  | none=>rw [hc] at hf;cases hf
  | some q =>
   rw [hc] at hf
   injection hf with hf
   rw [←hf]
   show q.ans=_
   rw [h.real hi q (List.mem_of_find?_eq_some hc)]
   obtain ⟨e1,e2⟩:=X8.1 (List.find?_some hc)
   rw [e1,e2]
theorem Gi (O:Orc) (lab:Nat):∀ qs:List (List Nat),(Zv O lab qs).ideal=O.ideal:=by
 intro qs
 unfold Zv
 induction qs generalizing O with
 | nil=>rfl
 | cons q r ih=>exact (ih (ZA O lab q)).trans (XZ O lab q)
theorem Gt {n:Nat} {f:Nat→Nat} {l:List Nat} (h:(List.range n).map f=l):ZD n f=(U64 l).toArray:=by rw [UR,h]
set_option maxRecDepth 100000 in
set_option maxHeartbeats 2000000 in
theorem Kv (w:World) :
  Calls Try.prog 4 #[] w fun e w'=>e= .returned (.bool true)∧Below w.heap.size w w':=by
 go_enter Try.func4,Try.ntmps4
 go_wp2_with fail
 refine (Kl w).mono ?_
 rintro _ w1 ⟨g1,F1,rfl,h1,hF1,hb1⟩
 go_wp2_with fail
 refine (JP 1 w1 (by decide)).mono ?_
 rintro _ w2 ⟨g2,F2,rfl,h2,hF2,hb2⟩
 have hl1:=h1.lt
 replace h1:=h1.below hb2
 have hF12:∀ b,F1 b→¬F2 b:=fun b ha hb=>by have:=hl1 b ha;have:=hF2 b hb;omega
 have hbw:=Za hb1 hb2
 have hF2w:∀ b,F2 b→w.heap.size≤b:=fun b hb=>Nat.le_trans hb1.size (hF2 b hb)
 clear hl1 hF2
 go_wp2_with fail
 obtain ⟨k1,k2,k3,hb3,hsz⟩:=JS w2 26 23 26 #[.int .u64 5] #[.slice (some ⟨w2.heap.size,0,none⟩) 1 1] #[.int .u64 7]
 have HF1:=Lib.hid (h1.lt)
 have HF2:=Lib.hid (h2.lt)
 have h1a:=Lib.hid (h1.below hb3)
 have h2a:=Lib.hid (h2.below hb3)
 have hbw3:=Za hbw hb3
 clear hb3 h1 h2 hbw
 generalize ((w2.alloc _).alloc _).alloc _=w3 at k1 k2 k3 hsz h1a h2a hbw3 ⊢
 obtain ⟨n2,hn2⟩:∃ n2,n2=w2.heap.size:=⟨_,rfl⟩
 rw [←hn2] at k1 k2 k3 hsz HF1 HF2 ⊢
 have kr1:=Yj (l:=[5]) k1 (n:=1) rfl (by decide) (by simp [maxLen])
 have krr:KRR (fun b=>n2≤b∧b<w3.heap.size) w3 (.slice (some ⟨n2+1,0,none⟩) 1 1) [[5]]:=by
  refine ⟨_,1,1,rfl,rfl,Nat.le_refl _,by simp [maxLen],fun i hi=>?_⟩
  obtain rfl:i=0:=by simp at hi;omega
  exact ⟨n2+1,0,some ⟨n2,0,none⟩,1,1,rfl,⟨by omega,k2.lt⟩,k2.lt,k2.cell 0,Yx kr1 fun b hb=>by subst hb;exact ⟨Nat.le_refl _,k1.lt⟩⟩
 have kr3:=Yx (K':=fun b=>n2≤b∧b<w3.heap.size) (Yj (l:=[7]) k3 (n:=1) rfl (by decide) (by simp [maxLen])) fun b hb=>by subst hb;exact ⟨by omega,k3.lt⟩
 have COM:=Lib.hid (Jh h1a.out (some ⟨n2+1,0,none⟩) (some ⟨n2+1+1,0,none⟩) 1 1 1 1 [[5]] [7] 0 krr kr3 (fun b hb=>⟨hb.2,fun e=>by have:=HF1.out b e;omega⟩) (by decide) rfl rfl (by decide) (by decide) (by decide) ⟨by decide,by decide⟩)
 have n2w:w.heap.size≤n2:=by rw [hn2];have:=hb1.size;have:=hb2.size;omega
 have HSZ:=Lib.hid hsz
 have HN2:=Lib.hid hn2
 clear k1 k2 k3 kr1 krr kr3 hsz hn2
 refine COM.out.mono ?_
 rintro _ w4 ⟨tv,F3,T,rfl,h4,m4,kt,hT⟩
 have hq0:ZL [[5]] [7]=[[7,5]]:=rfl
 rw [hq0] at h4 kt
 obtain ⟨O0,hO0⟩:∃ O0:Orc,O0=⟨false,0,0,[]⟩:=⟨_,rfl⟩
 have ok0:OrcOk O0:=by rw [hO0];exact Ua false 0 (by decide)
 have id0:O0.ideal=false:=by rw [hO0]
 have le0:ZV O0 0:=by rw [hO0];exact ⟨Nat.le_refl _,Nat.le_refl _⟩
 rw [←hO0] at h4 kt
 obtain ⟨L0,hL0⟩:∃ L0,L0=Z0 O0 16 [[7,5]]:=⟨_,rfl⟩
 have hL1:L0=[spH 16 [7,5]]:=by
  rw [hL0]
  show [ZM (Zv O0 16 ([[7,5]].take 0)) 16 [7,5]]=_
  rw [show Zv O0 16 ([[7,5]].take 0)=O0 from rfl,UX ok0 id0 16 (by decide)]
 obtain ⟨O3,hO3⟩:∃ O3,O3=Zv O0 16 [[7,5]]:=⟨_,rfl⟩
 have id3:O3.ideal=false:=by rw [hO3,Gi,id0]
 have le3:ZV O3 10:=by rw [hO3];exact Zs (Yk (lab:=16) [[7,5]] le0) (by decide)
 rw [←hO3,←hL0] at h4 kt
 have h4':OrcAt w4 g1 O3 F3:=h4
 have kt':KRR T w4 tv [L0]:=kt
 have hTok:Vx 0 [L0]:=by
  refine ⟨by decide,rfl,fun k hk=>?_⟩
  obtain rfl:k=0:=by omega
  rw [hL1]
  rfl
 have TOK:=Lib.hid hTok
 have HRT:=Lib.hid (show YI [L0]=spH 16 [7,5] by rw [hL1];rfl)
 obtain ⟨At,nt,ct,hv,-⟩:=kt'
 subst hv
 have kt2:KRR T w4 (.slice At nt ct) [L0]:=kt
 have ok3:=h4'.ok
 have h2b:=Lib.hid (h2a.out.moved m4 (fun b ha hb=>hF12 b hb ha))
 have hbw4:=Yf hbw3 m4 hF1
 have F3w:=Lib.hid (Uy m4 hF1 hbw3.size)
 have HF32:=Lib.hid (show ∀ b,F3 b→¬F2 b from fun b ha hb=>by
  rcases m4.foot b ha with e | e
  ·exact hF12 b e hb
  ·have:=HF2.out b hb;have:=HSZ.out;omega)
 have ID3:=Lib.hid id3
 have LE3:=Lib.hid le3
 have OK3:=Lib.hid ok3
 have H4:=Lib.hid h4'
 have KT:=Lib.hid kt2
 have HT:=Lib.hid hT
 clear hTok hq0 hO0 ok0 id0 le0 hL0 hL1 hO3 id3 le3 h4 kt h4' kt2 ok3 hT COM m4 hbw3 h1a h2a
 go_wp2_with fail
 have hal:=(Below.refl w4.heap.size w4).alloc (Nat.le_refl _) (.cells #[.slice At nt ct] 34)
 have kT:=Blk.new w4 34 #[.slice At nt ct]
 have H5:=Lib.hid (H4.out.below hal)
 have H25:=Lib.hid (h2b.out.below hal)
 have KT5:=Lib.hid (Zz KT.out hal)
 have hbw5:=Za hbw4 hal
 have nFT:Hid (¬F3 w4.heap.size):=fun e=>by have:=H4.out.lt _ e;omega
 generalize w4.alloc _=w5 at hal kT H5 H25 KT5 hbw5 ⊢
 obtain ⟨gT,hgT⟩:∃ gT,gT=w4.heap.size:=⟨_,rfl⟩
 rw [←hgT] at kT nFT ⊢
 have HGT:=Lib.hid hgT
 clear hal hbw4 hgT
 refine (KW 5 _).mono ?_
 rintro _ w6 ⟨rfl,hb6⟩
 have kT6:=kT.below hb6 kT.lt
 have H6:=Lib.hid (H5.out.below hb6)
 have H26:=Lib.hid (H25.out.below hb6)
 have KT6:=Lib.hid (Zz KT5.out hb6)
 have hbw6:=Za hbw5 hb6
 clear kT hb6 hbw5
 go_wp2_with fail
 refine (XP H6.out 5 0 Zg (by decide) (by decide) (by decide) (by decide) (Zs LE3.out (by decide))).mono ?_
 rintro _ w7 ⟨rfl,F4,h7,m7⟩
 rw [UX OK3.out ID3.out 19 (by decide)]
 obtain ⟨cc,hcc⟩:∃ cc,cc=spH 19 [5,0]%Zg:=⟨_,rfl⟩
 rw [←hcc]
 have HCC:=Lib.hid hcc
 have h7a:OrcAt w7 g1 (ZA O3 19 [5,0]) F4:=h7
 have ID7:=Lib.hid (show (ZA O3 19 [5,0]).ideal=false from (XZ _ _ _).trans ID3.out)
 generalize ZA O3 19 [5,0]=O7 at h7a h7 ID7 ⊢
 have H7:=Lib.hid h7a
 have kT7:=kT6.moved m7 nFT
 have KT7:=Lib.hid (Xf KT6.out m7 fun b hb=>(HT.out b hb).2.2)
 have H27:=Lib.hid (H26.out.moved m7 fun b ha hb=>HF32.out b hb ha)
 have hbw7:=Yf hbw6 m7 F3w.out
 have HF42:=Lib.hid (show ∀ b,F4 b→¬F2 b from fun b ha hb=>by
  rcases m7.foot b ha with e | e
  ·exact HF32.out b e hb
  ·have:=H26.out.lt b hb;omega)
 clear hcc h7a h7 m7 hbw6 nFT HF32 F3w HGT H6 H26 KT6 kT6 H5 H25 KT5 h2b H4 KT HT hF1 hb1 hb2 hF12 OK3 LE3 ID3 HSZ HN2 n2w HF1 HF2
 go_wp2_with fail
 obtain ⟨kc8,ks8,hb8,hz8⟩:=Xs w7 40 26 #[.int .u64 5, .int .u64 1] #[.int .u64 1, .int .u64 5]
 have H8:=Lib.hid (H7.out.below hb8)
 have KT8:=Lib.hid (Zz KT7.out hb8)
 have kT8:=kT7.below hb8 kT7.lt
 have H28:=Lib.hid (H27.out.below hb8)
 have hbw8:=Za hbw7 hb8
 generalize (w7.alloc _).alloc _=w8 at kc8 ks8 hb8 H8 KT8 kT8 H28 hbw8 hz8 ⊢
 obtain ⟨n7,hn7⟩:∃ n7,n7=w7.heap.size:=⟨_,rfl⟩
 rw [←hn7] at kc8 ks8 ⊢
 clear hz8 hn7 hbw7 kT7 KT7 H7 H27
 obtain ⟨S,hS⟩:∃ S,S=Y2 Zg 3 4 [1,5]:=⟨_,rfl⟩
 have hS3:S.length=3:=by rw [hS];unfold Y2;simp
 have hSl:∀ x∈S,x<Zg:=by rw [hS];exact zW (by decide) _
 have hop:=zL (p:=Zg) (key:=3) (nonce:=4) (l:=[1,5]) (by decide) (by decide)
 rw [←hS] at hop
 obtain ⟨hpl,hta⟩:=hop
 have hpl2:(List.range 2).map (XM Zg (S.take 2) (ZR Zg 3 4 2))=[1,5]:=by
  have h:=hpl
  unfold GH at h
  rw [show (S.take ([1,5]:List Nat).length).length=2 by simp [hS3]] at h
  exact h
 have HPL:=Lib.hid hpl2
 have HTA:=Lib.hid (show GF Zg 3 4 (S.take 2)=S.getD 2 0 from hta)
 have HS3:=Lib.hid hS3
 have HSL:=Lib.hid hSl
 have hrs:=Yj (l:=[1,5]) ks8 (n:=2) rfl (by decide) (by simp [maxLen])
 have HSE:=Lib.hid (zQ H8.out ID7.out 3 4 _ 2 2 [1,5] (Zq hrs) (by decide) (by decide) (by decide) (by decide))
 rw [←hS] at HSE
 clear hpl hta hpl2 hS3 hSl hS ks8 hrs hb8
 refine HSE.out.mono ?_
 rintro _ w9 ⟨v,rfl,ov,hb9⟩
 obtain ⟨Av,cv,rfl,-⟩:=ZY ov
 have S64:∀ x∈S,x<18446744073709551616:=fun x hx=>Nat.lt_of_lt_of_le (HSL.out x hx) (by decide)
 have RS:=yj ov S64
 have H9:=Lib.hid (H8.out.below hb9)
 have KT9:=Lib.hid (Zz KT8.out hb9)
 have kT9:=kT8.below hb9 kT8.lt
 have kc9:=kc8.below hb9 kc8.lt
 have H29:=Lib.hid (H28.out.below hb9)
 have hbw9:=Za hbw8 hb9
 have HOP:=Lib.hid (zM H9.out ID7.out 3 4 2 Av (2+1) cv S RS HS3.out (by decide) (by decide) (List.all_eq_true.2 fun x hx=>decide_eq_true (HSL.out x hx)) (by rw [HS3.out];decide) HTA.out)
 clear HSE ov hb9 RS S64 kc8 kT8 KT8 H8 H28 hbw8 HSL HS3 HTA
 go_wp2_with fail
 refine HOP.out.mono ?_
 rintro _ w10 ⟨gp,rfl,kp,hgp,hb10⟩
 rw [Gt HPL.out] at kp
 have H10:=Lib.hid (H9.out.below hb10)
 have KT10:=Lib.hid (Zz KT9.out hb10)
 have kT10:=kT9.below hb10 kT9.lt
 have kc10:=kc9.below hb10 kc9.lt
 have H210:=Lib.hid (H29.out.below hb10)
 have hbw10:=Za hbw9 hb10
 clear HOP hb10 hgp kc9 kT9 KT9 H9 H29 hbw9 HPL
 have ccT:=kT10.cell
 have HRo:=Lib.hid (UW (VA KT10.out) TOK.out)
 rw [HRT.out] at HRo
 clear KT10 TOK HRT
 go_wp2_with fail
 refine HRo.out.mono ?_
 rintro _ w11 ⟨rfl,hb11⟩
 have H11:=Lib.hid (H10.out.below hb11)
 have kc11:=kc10.below hb11 kc10.lt
 have kp11:=kp.below hb11 kp.lt
 have H211:=Lib.hid (H210.out.below hb11)
 have hbw11:=Za hbw10 hb11
 clear HRo hb11 kc10 kp H10 H210 hbw10 ccT kT10
 obtain ⟨r1,hr1⟩:∃ r1,r1=spH 16 [7,5]:=⟨_,rfl⟩
 rw [←hr1]
 have HR1:=Lib.hid hr1
 clear hr1
 go_wp2_with fail
 have bx12:=(Below.refl w11.heap.size w11).alloc (Nat.le_refl _) (.cells #[.int .u64 7, .int .u64 5] 26)
 have kx12:=Blk.new w11 26 #[.int .u64 7, .int .u64 5]
 have H12:=Lib.hid (H11.out.below bx12)
 have kc12:=kc11.below bx12 kc11.lt
 have kp12:=kp11.below bx12 kp11.lt
 have H212:=Lib.hid (H211.out.below bx12)
 have hbw12:=Za hbw11 bx12
 generalize w11.alloc _=w12 at kx12 bx12 H12 kc12 kp12 H212 hbw12 ⊢
 generalize w11.heap.size=n11 at kx12 bx12 ⊢
 have RX:=Zq (Yj (l:=[7,5]) kx12 (n:=2) rfl (by decide) (by simp [maxLen]))
 have HH:=Lib.hid (JM 16 _ 2 2 [7,5] w12 RX (by decide) (by decide))
 rw [←HR1.out] at HH
 clear RX kx12 bx12 H11 kc11 kp11 H211 hbw11
 refine HH.out.mono ?_
 rintro _ w13 ⟨rfl,hb13⟩
 have H13:=Lib.hid (H12.out.below hb13)
 have kc13:=kc12.below hb13 kc12.lt
 have kp13:=kp12.below hb13 kp12.lt
 have H213:=Lib.hid (H212.out.below hb13)
 have hbw13:=Za hbw12 hb13
 clear HH hb13 H12 kc12 kp12 H212 hbw12
 have ccC:=kc13.cell
 go_wp2_with fail
 have bx14:=(Below.refl w13.heap.size w13).alloc (Nat.le_refl _) (.cells #[.int .u64 5, .int .u64 0] 26)
 have kx14:=Blk.new w13 26 #[.int .u64 5, .int .u64 0]
 have H14:=Lib.hid (H13.out.below bx14)
 have kp14:=kp13.below bx14 kp13.lt
 have H214:=Lib.hid (H213.out.below bx14)
 have hbw14:=Za hbw13 bx14
 generalize w13.alloc _=w14 at kx14 bx14 H14 kp14 H214 hbw14 ⊢
 generalize w13.heap.size=n13 at kx14 bx14 ⊢
 have RX:=Zq (Yj (l:=[5,0]) kx14 (n:=2) rfl (by decide) (by simp [maxLen]))
 have HH:=Lib.hid (JM 19 _ 2 2 [5,0] w14 RX (by decide) (by decide))
 rw [show spH 19 [5,0]=cc from (HCC.out.trans (Nat.mod_eq_of_lt (Jc 19 [5,0]))).symm] at HH
 clear RX kx14 bx14 H13 kp13 H213 hbw13 ccC kc13
 refine HH.out.mono ?_
 rintro _ w15 ⟨rfl,hb15⟩
 have H15:=Lib.hid (H14.out.below hb15)
 have kp15:=kp14.below hb15 kp14.lt
 have H215:=Lib.hid (H214.out.below hb15)
 have hbw15:=Za hbw14 hb15
 clear HH hb15 H14 kp14 H214 hbw14
 go_wp2_with fail
 have bx16:=(Below.refl w15.heap.size w15).alloc (Nat.le_refl _) (.cells #[.int .u64 1, .int .u64 5] 26)
 have kx16:=Blk.new w15 26 #[.int .u64 1, .int .u64 5]
 have H16:=Lib.hid (H15.out.below bx16)
 have kp16:=kp15.below bx16 kp15.lt
 have H216:=Lib.hid (H215.out.below bx16)
 have hbw16:=Za hbw15 bx16
 generalize w15.alloc _=w16 at kx16 bx16 H16 kp16 H216 hbw16 ⊢
 generalize w15.heap.size=n15 at kx16 bx16 ⊢
 have RX:=Zq (Yj (l:=[1,5]) kx16 (n:=2) rfl (by decide) (by simp [maxLen]))
 have RY:=Zq (Yj (l:=[1,5]) kp16 (n:=2) rfl (by decide) (by simp [maxLen]))
 have HH:=Lib.hid (Ks _ _ 2 2 2 2 [1,5] [1,5] w16 RY RX)
 clear RX RY kx16 bx16 H15 kp15 H215 hbw15
 refine HH.out.mono ?_
 rintro _ w17 ⟨rfl,hb17⟩
 have H17:=Lib.hid (H16.out.below hb17)
 have kp17:=kp16.below hb17 kp16.lt
 have H217:=Lib.hid (H216.out.below hb17)
 have hbw17:=Za hbw16 hb17
 clear HH hb17 H16 kp16 H216 hbw16
 obtain ⟨O2,hO2⟩:∃ O2:Orc,O2=⟨true,1,0,[]⟩:=⟨_,rfl⟩
 have h2i:OrcAt w17 g2 O2 F2:=by rw [hO2];exact H217.out
 have he1:ZM (ZA O2 1 []) 1 []=ZM O2 1 []:=by rw [hO2];decide
 have he2:(ZA (ZA O2 1 []) 1 []).dr=1:=by rw [hO2];decide
 have HH:=Lib.hid (Y6 h2i 1 [] none 0 0 (K:=fun _=>False) G0 (fun b hb=>hb.elim) (by decide) (by decide) (.inr (by rw [hO2])) (by rw [hO2];decide) (by rw [hO2];decide))
 have id2:(ZA O2 1 []).ideal=true:=by rw [hO2];decide
 have l2:(ZA O2 1 []).qs.length≤1000000:=by rw [hO2];decide
 have d2:(ZA O2 1 []).dr≤1000000:=by rw [hO2];decide
 clear hO2 h2i H217 kp17
 go_wp2_with fail
 refine HH.out.mono ?_
 rintro _ w18 ⟨rfl,F5,h5,m5⟩
 have hF5:=Uy m5 hF2w hbw17.size
 have hbw18:=Yf hbw17 m5 hF2w
 generalize ZA O2 1 []=Oa at *
 have HJ:=Lib.hid (Y6 h5 1 [] none 0 0 (K:=fun _=>False) G0 (fun b hb=>hb.elim) (by decide) (by decide) (.inr id2) l2 d2)
 rw [he1] at HJ
 generalize ZM O2 1 []=va at *
 clear HH he1 id2 l2 d2 h5 m5
 go_wp2_with fail
 refine HJ.out.mono ?_
 rintro _ w19 ⟨rfl,F6,h6,m6⟩
 have hbw19:=Yf hbw18 m6 hF5
 have HD:=Lib.hid (zt h6)
 rw [he2] at HD
 clear HJ h6 m6 he2
 go_wp2_with fail
 refine HD.out.mono ?_
 rintro _ w20 ⟨rfl,rfl⟩
 go_wp2_with fail
 go_ret
 exact ⟨rfl,hbw19⟩
end Go.Proofs.Ytbiieaiahdihnaa
namespace Go.Proofs.Ytbiieaiahdihnaa
open Go.RowKit Go.Maps
set_option maxRecDepth 100000 in
set_option maxHeartbeats 400000 in
theorem Up (A:Option Addr) (n c:Nat) (l:List Nat) (w:World) (hl:RWd w [.slice A n c] l) :
  Calls Try.prog 22 #[.slice A n c] w fun e w'=>e= .returned (.bool (ZB l))∧w=w':=by
 obtain ⟨rfl,h1,h2,-,hrd⟩:=ZO hl
 have gm:=YY h1 h2
 clear hl h1 h2
 go_enter Try.func22,Try.ntmps22
 go_wp2_with fail
 go_loop [3] (fun i=>∃ j:Nat,j≤l.length∧i= .int .i64 (j:Int)∧Hid (ZB (l.take j)=true)) (fun i=>l.length-(intOf i).toNat)
 case atStart=>exact ⟨0,Nat.zero_le _,rfl,rfl⟩
 case round =>
  obtain ⟨j,hj,rfl,HB⟩:=hrel
  by_cases hlt:j<l.length
  ·obtain ⟨b,q,rfl,hbl,hc⟩:=ZN hrd hlt
   have HL:=Lib.hid hlt
   have g1:(0:Int)≤(j:Int):=by omega
   have g2:(j:Int)<(l.length:Int):=by omega
   have HN:=Lib.hid (fun h=>UL (l:=l) hlt h)
   have HY:=Lib.hid (fun h=>Uf (l:=l) hlt HB.out h)
   revert hc HN HY
   generalize l.getD j 0=y
   intro hc HN HY
   clear hrd
   by_cases z:Zg≤y
   ·have HZ:=Lib.hid (HN.out z)
    unfold Zg at z
    have d1:decide ((18446744069414584321:Int)≤(y:Int))=true:=decide_eq_true (by omega)
    clear HN HY
    go_wp2
    go_ret
    exact ⟨by rw [HZ.out];rfl,rfl⟩
   ·have HZ:=Lib.hid (HY.out (by omega))
    unfold Zg at z
    have d1:decide ((18446744069414584321:Int)≤(y:Int))=false:=decide_eq_false (by omega)
    clear HN HY
    go_wp2
    go_round
    case rel=>exact ⟨j+1,by omega,by go_num,HZ.out⟩
    case measure=>simp [intOf];omega
  ·have e:j=l.length:=by omega
   have HA:=Lib.hid (show ZB l=true by have:=HB.out;rwa [e,List.take_length] at this)
   clear hrd
   go_wp2
   go_ret
   exact ⟨by rw [HA.out];rfl,rfl⟩
def YP (l:List Nat):Bool:=decide (l.length≤20)&&ZB l
def Yo (ls:List (List Nat)) (sa:List Nat):Bool:=decide (1≤ls.length)&&(decide (ls.length≤16)&&(YQ ls.length&&(decide (sa.length=ls.length)&&(ZB sa&&ls.all YP))))
theorem zf {l:List (List Nat)} {j:Nat} (hj:j<l.length) (h:(l.take j).all YP=true) (hx:YP (l.getD j [])=true):(l.take (j+1)).all YP=true:=by
 rw [List.take_succ_eq_append_getElem hj,List.all_append,h]
 rw [List.getD_eq_getElem?_getD,List.getElem?_eq_getElem hj] at hx
 simpa using hx
theorem yk {l:List (List Nat)} {j:Nat} (hj:j<l.length) (hx:YP (l.getD j [])=false):l.all YP=false:=by
 rw [List.all_eq_false]
 rw [List.getD_eq_getElem?_getD,List.getElem?_eq_getElem hj] at hx
 refine ⟨l[j],List.getElem_mem _,?_⟩
 have hx':YP l[j]=false:=hx
 rw [hx']
 decide
set_option maxRecDepth 100000 in
set_option maxHeartbeats 2000000 in
theorem K2 {w:World} {A A2:Option Addr} {n c n2 c2:Nat} {ls:List (List Nat)} {sa:List Nat} (h:XR w [.slice A n c] ls) (hs:RWd w [.slice A2 n2 c2] sa) :
  Calls Try.prog 5 #[.agg #[.slice A n c, .slice A2 n2 c2]] w fun e w'=>e= .returned (.bool (Yo ls sa))∧Below w.heap.size w w':=by
 obtain ⟨rfl,h1,h2,-⟩:=Xu h
 obtain ⟨rfl,s1,s2,s3,-⟩:=ZO hs
 have gm:=YY h1 h2
 have gm2:=YY s1 s2
 have hb0:=(Below.refl w.heap.size w).alloc (Nat.le_refl _) (.cells #[.slice A ls.length c, .slice A2 sa.length c2] 25)
 have kb0:=Blk.new w 25 #[.slice A ls.length c, .slice A2 sa.length c2]
 have h':=Lib.hid (YA _ _ _ _ hb0 h)
 have hs':=Lib.hid (Yc _ _ _ _ hb0 hs)
 clear h hs h1 h2 s1 s2 s3
 go_enter Try.func5,Try.ntmps5
 go_upto_region 1 with fail
 have kc:=kb0.cell
 generalize w.alloc _=w1 at hb0 kb0 h' hs' kc ⊢
 obtain ⟨nn,hnn⟩:∃ nn,nn=ls.length:=⟨_,rfl⟩
 obtain ⟨mm,hmm⟩:∃ mm,mm=sa.length:=⟨_,rfl⟩
 rw [←hnn] at kb0 h' gm kc ⊢
 rw [←hmm] at kb0 hs' gm2 kc ⊢
 have HNN:=Lib.hid hnn
 have HMM:=Lib.hid hmm
 clear hnn hmm kb0
 by_cases q1:¬(1≤nn)
 ·have HQ:=Lib.hid (show Yo ls sa=false by unfold Yo;rw [←HNN.out,decide_eq_false q1];rfl)
  have d1:decide ((nn:Int)<1)=true:=decide_eq_true (by omega)
  have d1':(nn:Int)<1:=by omega
  clear q1
  go_wp2_with fail
  go_ret
  exact ⟨by rw [HQ.out];rfl,hb0⟩
 replace q1:=Decidable.not_not.1 q1
 have d1:decide ((nn:Int)<1)=false:=decide_eq_false (by omega)
 by_cases q2:¬(nn≤16)
 ·have HQ:=Lib.hid (show Yo ls sa=false by unfold Yo;rw [←HNN.out,decide_eq_false q2,decide_eq_true q1];rfl)
  have d2:decide ((16:Int)<(nn:Int))=true:=decide_eq_true (by omega)
  clear q1 q2
  go_wp2_with fail
  go_ret
  exact ⟨by rw [HQ.out];rfl,hb0⟩
 replace q2:=Decidable.not_not.1 q2
 have d2:decide ((16:Int)<(nn:Int))=false:=decide_eq_false (by omega)
 have HN:=Lib.hid (show YQ nn=decide (nn &&& (nn-1)=0) from G3 ⟨nn,by omega⟩ q1)
 have ha:bits .and .i64 (nn:Int) ((nn:Int)-1)=((nn &&& (nn-1):Nat):Int):=GS ⟨nn,by omega⟩ q1
 obtain ⟨a,hae⟩:∃ a,a=nn &&& (nn-1):=⟨_,rfl⟩
 rw [←hae] at ha
 have HA:=Lib.hid hae
 have e1:IntKind.i64.wrap ((nn:Int)-1)=(nn:Int)-1:=by rw [IntKind.wrap_i64];omega
 clear hae
 by_cases ca:¬(a=0)
 ·have d3:((a:Int) != 0)=true:=by rw [bne_iff_ne];omega
  have HQ:=Lib.hid (show Yo ls sa=false by
   unfold Yo
   rw [←HNN.out,decide_eq_true q2,decide_eq_true q1,show YQ nn=false from HN.out.trans (decide_eq_false (by rw [←HA.out];exact ca))]
   rfl)
  clear q1 q2 ca
  go_wp2_with fail
  go_ret
  exact ⟨by rw [HQ.out];rfl,hb0⟩
 replace ca:=Decidable.not_not.1 ca
 have HK:=Lib.hid (show YQ nn=true from HN.out.trans (decide_eq_true (by rw [←HA.out];exact ca)))
 clear HN HA
 subst ca
 by_cases cm:¬(mm=nn)
 ·have d4:((mm:Int) != (nn:Int))=true:=by rw [bne_iff_ne];omega
  have HQ:=Lib.hid (show Yo ls sa=false by
   unfold Yo
   rw [←HNN.out,←HMM.out,decide_eq_true q2,decide_eq_true q1,HK.out,decide_eq_false cm]
   rfl)
  clear q1 q2 cm
  go_wp2_with fail
  go_ret
  exact ⟨by rw [HQ.out];rfl,hb0⟩
 replace cm:=Decidable.not_not.1 cm
 subst cm
 have HQ:=Lib.hid (show Yo ls sa=(ZB sa&&ls.all YP) by
  unfold Yo
  rw [←HNN.out,←HMM.out,decide_eq_true q2,decide_eq_true q1,HK.out,decide_eq_true rfl]
  rfl)
 have HR:=Lib.hid (Up _ _ _ _ _ hs'.out)
 clear HK q1 q2 hs' HMM
 go_wp2_with fail
 refine HR.out.mono ?_
 rintro _ _ ⟨rfl,rfl⟩
 cases he:ZB sa
 ·have HF:=Lib.hid (show Yo ls sa=false by rw [HQ.out,he];rfl)
  clear HQ he HR
  go_wp2_with fail
  go_ret
  exact ⟨by rw [HF.out];rfl,hb0⟩
 replace HQ:=Lib.hid (show Yo ls sa=ls.all YP by rw [HQ.out,he];rfl)
 clear he HR
 go_wp2_with fail
 go_loop [38] (fun i=>∃ j:Nat,j≤mm∧i= .int .i64 (j:Int)∧Hid ((ls.take j).all YP=true)) (fun i=>mm-(intOf i).toNat)
 case atStart=>exact ⟨0,Nat.zero_le _,rfl,rfl⟩
 case round =>
  obtain ⟨j,hj,rfl,HB⟩:=hrel
  by_cases hlt:j<mm
  ·have hjl:j<ls.length:=by rw [←HNN.out];exact hlt
   obtain ⟨b,q,A1,n1,c1,rfl,hbl,hc,hn1,hr1⟩:=ze h'.out hjl
   have HL:=Lib.hid hlt
   have g1:(0:Int)≤(j:Int):=by omega
   have g2:(j:Int)<(mm:Int):=by omega
   have HN:=Lib.hid (fun h=>yk (l:=ls) hjl h)
   have HY:=Lib.hid (fun h=>zf (l:=ls) hjl HB.out h)
   have HR:=Lib.hid (Up _ _ _ _ _ hr1)
   obtain ⟨y,hy⟩:∃ y,y=ls.getD j []:=⟨_,rfl⟩
   rw [←hy] at hn1 HN HY HR
   have H1:=Lib.hid hn1
   clear hy hr1 hjl hn1
   by_cases z:n1≤20
   ·have d1:decide ((20:Int)<(n1:Int))=false:=decide_eq_false (by omega)
    have HZ:=Lib.hid (show YP y=ZB y by unfold YP;rw [←H1.out,decide_eq_true z];rfl)
    clear z
    go_wp2_with fail
    refine HR.out.mono ?_
    rintro _ _ ⟨rfl,rfl⟩
    cases he:ZB y
    ·have HF:=Lib.hid (HN.out (HZ.out.trans he))
     clear he HN HY HZ HR
     go_wp2
     go_ret
     exact ⟨by rw [HQ.out,HF.out];rfl,hb0⟩
    ·have HF:=Lib.hid (HY.out (HZ.out.trans he))
     clear he HN HY HZ HR
     go_wp2
     go_round
     case rel=>exact ⟨j+1,by omega,by go_num,HF.out⟩
     case measure=>simp [intOf];omega
   ·have d1:decide ((20:Int)<(n1:Int))=true:=decide_eq_true (by omega)
    have HF:=Lib.hid (HN.out (by unfold YP;rw [←H1.out,decide_eq_false z];rfl))
    clear HN HY HR z
    go_wp2
    go_ret
    exact ⟨by rw [HQ.out,HF.out];rfl,hb0⟩
  ·have e:j=mm:=by omega
   have HA:=Lib.hid (show ls.all YP=true by have:=HB.out;rwa [e,HNN.out,List.take_length] at this)
   go_wp2
   go_ret
   exact ⟨by rw [HQ.out,HA.out];rfl,hb0⟩
end Go.Proofs.Ytbiieaiahdihnaa
namespace Go.Proofs.Ytbiieaiahdihnaa
open Go.RowKit Go.Maps
theorem Jj:∀ (d:Nat) (O:Orc) (l:List Nat),XI O→(∀ x∈l,x<Zg)→∀ r∈ZU d O l,∀ x∈r,x<Zg
 | 0,_,l,_,hl=>fun r hr x hx=>by
  have e:r=l:=by simpa [ZU] using hr
  subst e
  exact hl x hx
 | d+1,O,l,hO,hl=>fun r hr x hx=>by
  rcases List.mem_cons.1 (show r∈l :: ZU d (Zv O 17 (Zu l)) (Z0 O 17 (Zu l)) from hr) with e | e
  ·subst e
   exact hl x hx
  ·exact Jj d _ _ (Xi hO 17 _) (X7 hO 17 _) r e x hx
theorem UE {l:List Nat} (hl:∀ x∈l,x<Zg) (i:Nat):l.getD i 0<Zg:=by
 by_cases h:i<l.length
 ·exact hl _ (YM 0 h)
 ·rw [List.getD_eq_getElem?_getD,List.getElem?_eq_none (by omega)]
  decide
theorem Jd {ls:List (List Nat)} (h:∀ r∈ls,∀ x∈r,x<Zg) (k j:Nat):(ls.getD k []).getD j 0<Zg:=by
 by_cases hk:k<ls.length
 ·exact UE (h _ (YM [] hk)) j
 ·have e:ls.getD k []=[]:=by rw [List.getD_eq_getElem?_getD,List.getElem?_eq_none (by omega)];rfl
  rw [e]
  show 0<Zg
  decide
theorem KH {ls:List (List Nat)} (h:∀ r∈ls,∀ x∈r,x<Zg) (i:Nat):∀ x∈Ys ls i,x<Zg:=by
 rw [VU]
 intro x hx
 obtain ⟨k,_,rfl⟩:=List.mem_map.1 hx
 exact Jd h _ _
theorem GV {l:List Nat} (h:∀ x∈l,x<Zg):ZB l=true:=List.all_eq_true.2 fun x hx=>decide_eq_true (h x hx)
theorem J6 {l:List Nat} (h:ZB l=true):∀ x∈l,x<Zg:=fun x hx=>of_decide_eq_true (List.all_eq_true.1 h x hx)
theorem zg {O T:Orc} {d:Nat} {ls:List (List Nat)} {sa:List Nat} (hd:d≤10) (hn:ls.length=2^d) (hsl:sa.length=ls.length) (hse:ZB sa=true) (hle:∀ l∈ls,ZB l=true) (hO:XI O)
  (hT:∀ lab el a,Yv (Vb d (Zv O 16 (ZL ls sa)) (Z0 O 16 (ZL ls sa))) lab el a→Yv T lab el a) {i:Nat} (hi:i<ls.length) :
  Gh T (YI (ZU d (Zv O 16 (ZL ls sa)) (Z0 O 16 (ZL ls sa)))) ls.length i (sa.getD i 0) (ls.getD i []) (Ys (ZU d (Zv O 16 (ZL ls sa)) (Z0 O 16 (ZL ls sa))) i)=true ∧
   GK T (YI (ZU d (Zv O 16 (ZL ls sa)) (Z0 O 16 (ZL ls sa)))) ls.length i (sa.getD i 0) (ls.getD i []) (Ys (ZU d (Zv O 16 (ZL ls sa)) (Z0 O 16 (ZL ls sa))) i)=T:=by
 have hql:(ZL ls sa).length=ls.length:=X9 _ _
 have hqe:∀ q∈ZL ls sa,ZB q=true:=fun q hq=>by
  simp only [ZL,List.mem_map,List.mem_range] at hq
  obtain ⟨k,hk,rfl⟩:=hq
  exact GV fun x hx=>by
   rcases List.mem_cons.1 hx with e | e
   ·rw [e];exact UE (J6 hse) k
   ·exact J6 (hle _ (YM [] hk)) x e
 have ha:=UY O 16 (ZL ls sa) hqe i (by omega)
 rw [JO ls sa i hi] at ha
 have hv:=X7 hO 16 (ZL ls sa)
 have hvl:(Z0 O 16 (ZL ls sa)).length=2^d:=by rw [Yy,hql,hn]
 have hOa:=Xi hO 16 (ZL ls sa)
 generalize Z0 O 16 (ZL ls sa)=L at *
 generalize Zv O 16 (ZL ls sa)=O1 at *
 have hA:=hT _ _ _ (XX d L ha)
 obtain ⟨w1,w2⟩:=KF (T:=T) d O1 L 16 (sa.getD i 0 :: ls.getD i []) i hvl hv hT hOa (by omega) hA
 have ht:=JJ O1 hd hvl
 have hta:=Jj d O1 L hOa hv
 have hp:Vf (YI (ZU d O1 L)) ls.length i (sa.getD i 0) (ls.getD i []) (Ys (ZU d O1 L) i)=true:=by
  unfold Vf
  rw [show YQ ls.length=true by rw [hn];exact Ub hd,decide_eq_true hi,decide_eq_true (show 2^(Ys (ZU d O1 L) i).length=ls.length by rw [VU,List.length_map,List.length_range,ht.len,hn];rfl),
   decide_eq_true (show YI (ZU d O1 L)<Zg by rw [KY ht];exact Jd hta d 0),decide_eq_true (UE (J6 hse) i),hle _ (YM [] hi),GV (KH hta i)]
  rfl
 unfold Gh GK
 rw [hp,w1,w2]
 exact ⟨by simp,rfl⟩
theorem GC {ls:List (List Nat)} {sa:List Nat} (h:Yo ls sa=true):∃ d,d≤4∧ls.length=2^d∧sa.length=ls.length∧ZB sa=true∧(∀ l∈ls,ZB l=true)∧∀ l∈ls,l.length≤20:=by
 unfold Yo at h
 simp only [Bool.and_eq_true,decide_eq_true_eq] at h
 obtain ⟨h1,h2,h3,h4,h5,h6⟩:=h
 obtain ⟨d,hd,he⟩:=Vq h3
 refine ⟨d,?_,he,h4,h5,fun l hl=>?_,fun l hl=>?_⟩
 ·rcases Nat.lt_or_ge 4 d with h | h
  ·have:=Nat.pow_le_pow_right (n:=2) (by omega) (show 5≤d from h);omega
  ·exact h
 ·have:=List.all_eq_true.1 h6 l hl
  unfold YP at this
  exact (Bool.and_eq_true _ _ ▸ this).2
 ·have:=List.all_eq_true.1 h6 l hl
  unfold YP at this
  simp only [Bool.and_eq_true,decide_eq_true_eq] at this
  exact this.1
end Go.Proofs.Ytbiieaiahdihnaa
namespace Go.Proofs.Ytbiieaiahdihnaa
open Go.RowKit Go.Maps
theorem UP:Try.prog.cellsOf 25=2:=by kernel_rfl
theorem XJ:Try.prog.cellsOf 23=1:=by kernel_rfl
theorem XV:Try.prog.cellsOf 26=1:=by kernel_rfl
theorem Uv:Try.prog.cellsOf 22=1:=by kernel_rfl
theorem JU {w:World} {cs:List Value} (h:Fits Try.prog w 22 cs):∃ l,XR w cs l :=
 ys 1 (R:=RWd) Try.underlying22 XJ (fun _ _ hf=>Ko Try.underlying23 Try.underlying26 XV hf) h
theorem Kb {w:World} {cs0:Array Value} (f0:Fits Try.prog w 25 (Value.agg cs0).cells.toList) :
  ∃ (A B:Option Addr) (n c m d:Nat) (ls:List (List Nat)) (sa:List Nat),cs0=#[.slice A n c, .slice B m d]∧XR w [.slice A n c] ls∧RWd w [.slice B m d] sa:=by
 have e1:(Value.agg cs0).cells=cs0:=rfl
 rw [e1] at f0
 clear e1
 have hl:=(Uo Try.underlying25 f0).1
 rw [UP] at hl
 obtain ⟨cs,hcs⟩:∃ cs:List Value,cs0.toList=cs:=⟨_,rfl⟩
 rw [hcs] at hl f0
 obtain rfl:cs0=cs.toArray:=by rw [←hcs]
 clear hcs
 match cs,hl with
 | [x0,x1],_ =>
  obtain ⟨ls,h1⟩:=JU (UH (i:=0) Try.underlying25 rfl rfl Uv f0)
  obtain ⟨sa,h2⟩:=Ko Try.underlying23 Try.underlying26 XV (UH (i:=1) Try.underlying25 rfl rfl XJ f0)
  simp at h1 h2
  have h1':=h1
  have h2':=h2
  obtain ⟨A,n,c,e,-⟩:=h1'
  obtain ⟨B,m,d,e',-⟩:=h2'
  simp at e e'
  subst e e'
  exact ⟨A,B,n,c,m,d,ls,sa,rfl,h1,h2⟩
theorem Un:∀ (d:Nat) {O:Orc} {k:Nat} (l:List Nat),l.length=2^d→ZV O k→ZV (Vb d O l) (k+2^d)
 | 0,_,_,_,_,h=>Zs h (by omega)
 | d+1,O,k,l,hl,h=>by
  have e:l.length / 2=2^d:=by rw [hl,Nat.pow_succ];omega
  have h1:=Yk (lab:=17) (Zu l) h
  rw [YW,e] at h1
  refine Zs (Un d (Z0 O 17 (Zu l)) (by rw [Yy,YW,e]) h1) ?_
  rw [Nat.pow_succ]
  omega
theorem JQ {i:Nat} (h:i<1000000):Value.int .i64 (wrap64 ((i:Int)+1))=Value.int .i64 ((i+1:Nat):Int):=by
 have e:wrap64 ((i:Int)+1)=((i+1:Nat):Int):=by
  unfold wrap64
  omega
 rw [e]
theorem zF {i m:Nat} (h:i<m) (hi:i<1000000):m-(intOf (Value.int .i64 (wrap64 ((i:Int)+1)))).toNat<m-(intOf (Value.int .i64 (i:Int))).toNat:=by
 rw [JQ hi]
 simp only [intOf,Int.toNat_natCast]
 omega
theorem xm {ls:List (List Nat)} (h:∀ r∈ls,∀ x∈r,x<Zg):YI ls<Zg:=by
 unfold YI
 rw [List.getLastD_eq_getLast?]
 cases hl:ls.getLast? with
 | none=>show ([]:List Nat).getD 0 0<Zg;decide
 | some r=>exact UE (h r (List.mem_of_getLast? hl)) 0
set_option maxRecDepth 100000 in
set_option maxHeartbeats 2000000 in
theorem Vy (W:World) (cs0:Array Value) (f0:Fits Try.prog W 25 (Value.agg cs0).cells.toList) (seed:Nat) (hseed:seed<18446744073709551616) (count:Nat) (hcount:count<256) :
  Calls Try.prog 3 #[.agg cs0, .int .u64 (seed:Int), .int .u8 (count:Int)] W fun e W'=>e= .returned (.bool true)∧Below W.heap.size W W':=by
 obtain ⟨A,B,n,c,m,d,ls,sa,rfl,hls,hsa⟩:=Kb f0
 clear f0
 have kb:=Blk.new W 25 #[.slice A n c, .slice B m d]
 have hb0:Below W.heap.size W (W.alloc (.cells #[.slice A n c, .slice B m d] 25)):=(Below.refl W.heap.size W).alloc (Nat.le_refl _) _
 have HAw:=Lib.hid (fun w=>Kv w)
 have HRi:=Lib.hid (fun w (hb:Below W.heap.size W w)=>K2 (YA _ _ _ _ hb hls) (Yc _ _ _ _ hb hsa))
 have HLS:=Lib.hid hls
 have HSA:=Lib.hid hsa
 have HSE:=Lib.hid hseed
 have HCO:=Lib.hid hcount
 clear hls hsa hseed hcount
 go_enter Try.func3,Try.ntmps3
 go_upto_region 1 with fail
 generalize W.alloc _=w0 at hb0 kb ⊢
 go_wp2_with fail
 refine (HAw.out _).mono ?_
 rintro e w1 ⟨rfl,hb1⟩
 replace kb:=kb.below hb1 kb.lt
 have hb:=Za hb0 hb1
 have cb:=kb.cell
 clear hb0 hb1
 go_wp2_with fail
 refine (HRi.out _ hb).mono ?_
 rintro e w2 ⟨rfl,hb2⟩
 replace kb:=kb.below hb2 kb.lt
 replace hb:=Za hb hb2
 clear hb2 cb HRi
 cases hq:Yo ls sa
 ·clear hq
  go_wp2_with fail
  refine (HAw.out _).mono ?_
  rintro e w3 ⟨rfl,hb3⟩
  replace hb:=Za hb hb3
  clear hb3
  go_wp2_with fail
  go_ret
  exact ⟨rfl,hb⟩
 obtain ⟨dd,hd4,hn,hsl,hse,hle,hll⟩:=GC hq
 have cb:=kb.cell
 have cbl:=kb.lt
 clear hq HAw
 go_wp2_with fail
 refine (Kl w2).mono ?_
 rintro _ w3 ⟨g1,F1,rfl,h1,hF1,hb3⟩
 replace kb:=kb.below hb3 kb.lt
 have hW3:=hb.size
 replace hb:=Za hb hb3
 have nb1:¬F1 W.heap.size:=fun e=>by have:=hF1 _ e;have:=cbl;omega
 clear cb
 go_wp2_with fail
 refine (JP seed w3 HSE.out).mono ?_
 rintro _ w4 ⟨g2,F2,rfl,h2,hF2,hb4⟩
 have hF12:∀ b,F1 b→¬F2 b:=fun b ha hb=>by have:=h1.lt b ha;have:=hF2 b hb;omega
 replace h1:=h1.below hb4
 have nb2:¬F2 W.heap.size:=fun e=>by have:=hF2 _ e;have:=kb.lt;omega
 replace kb:=kb.below hb4 kb.lt
 replace hb:=Za hb hb4
 have hW4:=hb3.size
 clear cbl hb3 hb4
 obtain ⟨gk,Ok,Fk,e0,e1,hk,hle0,hap,hnb,hge⟩:∃ (gk:Nat→Nat) (Ok:Nat→Orc) (Fk:Nat→Nat→Prop),g1=gk 0∧g2=gk 1∧(∀ k,k<2→OrcAt w4 (gk k) (Ok k) (Fk k))∧(∀ k,k<2→ZV (Ok k) 0)∧(∀ b,Fk 0 b→¬Fk 1 b)∧(∀ k,k<2→¬Fk k W.heap.size)∧∀ k,k<2→∀ b,Fk k b→W.heap.size≤b:=by
  refine ⟨fun k=>if k=0 then g1 else g2,fun k=>if k=0 then ⟨false,0,0,[]⟩ else ⟨true,seed,0,[]⟩,fun k=>if k=0 then F1 else F2,rfl,rfl,fun k hk=>?_,fun k hk=>?_,hF12,fun k hk=>?_,fun k hk b hb'=>?_⟩
  ·match k,hk with
   | 0,_=>exact h1
   | 1,_=>exact h2
  ·match k,hk with
   | 0,_=>exact ⟨Nat.le_refl _,Nat.le_refl _⟩
   | 1,_=>exact ⟨Nat.le_refl _,Nat.le_refl _⟩
  ·match k,hk with
   | 0,_=>exact nb1
   | 1,_=>exact nb2
  ·match k,hk with
   | 0,_=>have:=hF1 b hb';omega
   | 1,_=>have:=hF2 b hb';omega
 subst e0 e1
 have hk4:=fun k h2 b (hf:Fk k b)=>(hk k h2).lt b hf
 have kbl:=kb.lt
 clear h1 h2 nb1 nb2 hF1 hF2 hF12 hW3
 go_upto_region 5 with fail
 have ks:=Blk.new w4 29 #[.pointer (some ⟨gk 0,0,none⟩), .pointer (some ⟨gk 1,0,none⟩)]
 have hb5:=(Below.refl w4.heap.size w4).alloc (Nat.le_refl _) (.cells #[.pointer (some ⟨gk 0,0,none⟩), .pointer (some ⟨gk 1,0,none⟩)] 29)
 replace hk:=fun k h2=>(hk k h2).below hb5
 replace kb:=kb.below hb5 kb.lt
 have hns:∀ k,k<2→¬Fk k w4.heap.size:=fun k h2 e=>by have:=hk4 k h2 _ e;omega
 replace hb:=Za hb hb5
 generalize w4.alloc _=w5 at ks hk kb hb hb5 ⊢
 obtain ⟨gs,hgs⟩:∃ gs,gs=w4.heap.size:=⟨_,rfl⟩
 rw [←hgs] at ks hns ⊢
 have hgsW:W.heap.size<gs:=by rw [hgs];exact kbl
 have HK:=Lib.hid hk
 have HLE:=Lib.hid hle0
 have HAP:=Lib.hid hap
 have HNB:=Lib.hid hnb
 have HGE:=Lib.hid hge
 have HNS:=Lib.hid hns
 have HGW:=Lib.hid hgsW
 have HLT:=Lib.hid (fun k h2 b (hf:Fk k b)=>(hk k h2).lt b hf)
 clear hk hle0 hap hnb hge hns hgsW hgs hb5 hk4 kbl
 go_loopw [32] (fun y wr=>∃ j:Nat,j≤2∧y= .int .i64 (j:Int)∧Below W.heap.size W wr∧Blk wr W.heap.size 25 #[.slice A n c, .slice B m d]∧Blk wr gs 29 #[.pointer (some ⟨gk 0,0,none⟩), .pointer (some ⟨gk 1,0,none⟩)]∧∀ k,j≤k→k<2→OrcAt wr (gk k) (Ok k) (Fk k)) (fun y _=>2-(intOf y).toNat)
 case atStart=>exact ⟨0,by decide,rfl,hb,kb,ks,fun k _ h2=>HK.out k h2⟩
 case round =>
  clear hb kb ks HK
  obtain ⟨j,hj,rfl,hb,kb,ks,hk⟩:=hrel
  by_cases hlt:j<2
  ·have hkj:=hk j (Nat.le_refl _) hlt
   have HKN:=Lib.hid (fun h2=>hk (j+1) (Nat.le_succ _) h2)
   have HL:=Lib.hid hlt
   have g0:(0:Int)≤(j:Int):=by omega
   have g2:(j:Int)<2:=by omega
   have hcs:∀ i,i=j→_:=fun i e=>(ks.cell i).trans (show _=some (Value.pointer (some ⟨gk j,0,none⟩)) by
    subst e
    match i,hlt with
    | 0,_=>rfl
    | 1,_=>rfl)
   have hc:=hcs j rfl
   have cb:=kb.cell
   have eN:n=ls.length:=(Xu HLS.out).1.symm
   have HN:=Lib.hid eN
   have HCM:=Lib.hid (Jh hkj A B n c m d ls sa dd (GN HLS.out hb) (G2 HSA.out hb) (fun b hb'=>⟨by have:=hb.size;omega,fun e=>by have:=HGE.out j hlt b e;omega⟩) (by omega) hn hsl hse hle (fun l hl=>by have:=hll l hl;omega) (Zs (HLE.out j hlt) (by decide)))
   have hans:=Lib.hid hkj.ok.ans
   clear hk hcs hkj eN
   go_wp2_with fail
   refine HCM.out.mono ?_
   rintro _ w6 ⟨tv,F3,T,rfl,h6,m6,kt,hT⟩
   have hof:=fun T hT i (hi:i<ls.length)=>zg (O:=Ok j) (T:=T) (d:=dd) (ls:=ls) (sa:=sa) (by omega) hn hsl hse hle hans.out hT hi
   have hvl:(Z0 (Ok j) 16 (ZL ls sa)).length=2^dd:=by rw [Yy,X9,hn]
   have htk:=JJ (Zv (Ok j) 16 (ZL ls sa)) (show dd≤10 by omega) hvl
   have hta:=Jj dd _ _ (Xi hans.out 16 (ZL ls sa)) (X7 hans.out 16 (ZL ls sa))
   obtain ⟨TL,hTL⟩:∃ TL,TL=ZU dd (Zv (Ok j) 16 (ZL ls sa)) (Z0 (Ok j) 16 (ZL ls sa)):=⟨_,rfl⟩
   obtain ⟨O1,hO1⟩:∃ O1,O1=Vb dd (Zv (Ok j) 16 (ZL ls sa)) (Z0 (Ok j) 16 (ZL ls sa)):=⟨_,rfl⟩
   rw [←hTL] at htk hta kt
   rw [←hO1] at h6
   simp only [←hTL,←hO1] at hof
   have HOF:=Lib.hid hof
   have HL1:=Lib.hid (show ZV O1 1000 by
    rw [hO1]
    have h1:=Yk (lab:=16) (ZL ls sa) (HLE.out j hlt)
    refine Zs (Un dd _ hvl h1) ?_
    have:=Nat.pow_le_pow_right (n:=2) (by decide) hd4
    rw [X9,hn]
    omega)
   have HKN6:=Lib.hid (fun h2=>(HKN.out h2).moved m6 fun b ha hb'=>by
    obtain rfl:j=0:=by omega
    exact HAP.out b hb' ha)
   have HD7:=Lib.hid (show j+1<2→∀ b,Fk (j+1) b→¬F3 b from fun h2 b hb' hf=>by
    obtain rfl:j=0:=by omega
    rcases m6.foot b hf with e | e
    ·exact HAP.out b e hb'
    ·have:=(HKN.out h2).lt b hb'
     omega)
   have HTK:=Lib.hid htk
   have HTA:=Lib.hid hta
   have F3g:=Uy m6 (HGE.out j hlt) hb.size
   have nW:¬F3 W.heap.size:=fun e=>by
    rcases m6.foot _ e with e | e
    ·exact HNB.out j hlt e
    ·have:=kb.lt;omega
   have nS:¬F3 gs:=fun e=>by
    rcases m6.foot _ e with e | e
    ·exact HNS.out j hlt e
    ·have:=ks.lt;omega
   have kb6:=kb.moved m6 (HNB.out j hlt)
   have ks6:=ks.moved m6 (HNS.out j hlt)
   have hb6:=Yf hb m6 (HGE.out j hlt)
   clear hof hvl htk hta hTL hO1 HCM cb hc
   obtain ⟨At,nt,ct,hv,-⟩:=id kt
   subst hv
   have H6:=Lib.hid h6
   have KT:=Lib.hid kt
   have HT:=Lib.hid hT
   have MW:=Lib.hid m6
   have HWR:=Lib.hid hb.size
   clear h6 kt hT m6 hb kb ks HKN hans
   go_upto_region 8 with fail
   have hal:=(Below.refl w6.heap.size w6).alloc (Nat.le_refl _) (.cells #[.slice At nt ct] 34)
   have kT:=Blk.new w6 34 #[.slice At nt ct]
   have nT:¬F3 w6.heap.size:=fun e=>by have:=H6.out.lt _ e;omega
   have H7:=Lib.hid (H6.out.below hal)
   have KT7:=Lib.hid (Zz KT.out hal)
   have HKN7:=Lib.hid (fun h2=>(HKN6.out h2).below hal)
   have kb7:=kb6.below hal kb6.lt
   have ks7:=ks6.below hal ks6.lt
   have hb7:=Za hb6 hal
   have HT7:=Lib.hid (show ∀ b,T b→W.heap.size≤b∧b<w6.heap.size∧¬F3 b from fun b hb'=>by
    obtain ⟨a1,a2,a3⟩:=HT.out b hb'
    exact ⟨Nat.le_trans HWR.out a1,a2,a3⟩)
   generalize w6.alloc _=w7 at hal kT H7 KT7 HKN7 kb7 ks7 hb7 ⊢
   obtain ⟨gT,hgT⟩:∃ gT,gT=w6.heap.size:=⟨_,rfl⟩
   rw [←hgT] at kT nT HT7 ⊢
   clear hal hgT HWR H6 KT HKN6 kb6 ks6 hb6 HT MW
   obtain ⟨st,hst⟩:∃ st,st=seed%18446744069414584321:=⟨_,rfl⟩
   have hstl:st<18446744073709551616:=by rw [hst];omega
   have es:(seed:Int).tmod 18446744069414584321=(st:Int):=by rw [hst];rfl
   have es':(seed:Int)%18446744069414584321=(st:Int):=by rw [hst];rfl
   obtain ⟨n1,hn1⟩:∃ n1,n1=n+1:=⟨_,rfl⟩
   obtain ⟨cm,hcm⟩:∃ cm,cm=count%n1:=⟨_,rfl⟩
   have hNe:=HN.out
   have hn16:n≤16:=by
    rw [hNe,hn]
    exact Nat.pow_le_pow_right (n:=2) (by decide) hd4
   have hcml:cm≤n:=by
    have:cm<n1:=by rw [hcm];exact Nat.mod_lt _ (by omega)
    omega
   have e1:IntKind.i64.wrap ((n:Int)+1)=(n1:Int):=by rw [IntKind.wrap_i64];omega
   have e2:(count:Int).tmod (n1:Int)=(cm:Int):=by rw [hcm];rfl
   have e2':(count:Int)%(n1:Int)=(cm:Int):=by rw [hcm];rfl
   have e3:IntKind.i64.wrap (count:Int)=(count:Int):=by rw [IntKind.wrap_i64];have:=HCO.out;omega
   have e4:IntKind.i64.wrap (cm:Int)=(cm:Int):=by rw [IntKind.wrap_i64];omega
   have e4':IntKind.u64.wrap (st:Int)=(st:Int):=by rw [IntKind.wrap_u64];omega
   have e5:¬((n1:Int)=0):=by omega
   have e5':((n1:Int) == 0)=false:=by simp;omega
   have e5n:¬(n1=0):=by omega
   have HST:=Lib.hid hst
   have HN1:=Lib.hid hn1
   have HCM:=Lib.hid hcm
   have HN16:=Lib.hid hn16
   have HCL:=Lib.hid hcml
   have HSL:=Lib.hid hstl
   clear hst hn1 hcm hn16 hcml hstl hNe
   obtain ⟨NQ,hNQ⟩:∃ NQ,NQ=w7.heap.size:=⟨_,rfl⟩
   have lgT:gT<NQ:=by rw [hNQ];exact kT.lt
   have cT:=kT.cell 0
   have KT1:=Lib.hid kT
   have KB:=Lib.hid kb7
   have KS:=Lib.hid ks7
   have HB:=Lib.hid hb7
   have HNQ:=Lib.hid hNQ
   have HFG:=Lib.hid F3g
   clear kT kb7 ks7 hb7 hNQ F3g
   go_upto_region 10 with fail
   have HFT0:Hid (VZ F3 NQ F3 w7):=Lib.hid (by rw [HNQ.out];exact US H7.out.lt)
   refine zv (F3) (F3) (NQ) [4,6,7,8,15,21] [0,1,2,3,5,9,10,11,12,13,14,4,6,7,8,15,16,17,18] 19 [20,21] 40 #[.int .u64 0, .int .u64 0] (by kernel_rfl) rfl ⟨rfl,fun a w=>by go_simp <;> rfl⟩ (by kernel_rfl) ?_
   refine Gf ?_
   intro Wc HWc hacc
   have hFT:Hid (VZ F3 NQ F3 Wc):=Lib.hid (by rw [HWc.out];first | exact HFT0.out | exact ⟨HFT0.out.size,HFT0.out.lt,HFT0.out.old⟩)
   have H8:=Lib.hid (show OrcAt Wc (gk j) O1 F3 by rw [HWc.out];exact H7.out.drew)
   have KT8:=Lib.hid (show KRR T Wc (.slice At nt ct) TL by rw [HWc.out];exact KT7.out)
   have M8:=Lib.hid (show Moved F3 F3 w7 Wc by rw [HWc.out];exact ZZ (Zh (Below.refl w7.heap.size w7)))
   clear HWc H7 HFT0
   repeat (first | (refine Jf rfl rfl (fun _ _ _ h=>h) ?_;simp only [Act.put,zLa,zLb,zLc]) | (refine Ue (v:=?_) rfl rfl hFT (fun _ _ _ h=>h) ?_ ?_;rotate_left;(· (intro w' hR;(first | have hcells:=Zx ((Zb F3 NQ).trans _ _ _ hacc hR) | skip);go_simp;try with_reducible rfl));simp only [Act.put,zLa,zLb,zLc]))
   refine VE (f:=?_) (vals:=?_) rfl rfl rfl hFT ?_ (fun wF hxF=>?_)
   rotate_left 3
   replace H8:=Lib.hid (H8.out.below hxF)
   replace KT8:=Lib.hid (Zz KT8.out hxF)
   replace M8:=Lib.hid (M8.out.trans (Zh hxF))
   replace hacc:=(Zb F3 NQ).trans _ _ _ hacc (Zm hxF hFT.out.size)
   replace hFT:=Lib.hid (ZT hFT.out hxF)
   refine (KW st _).mono ?_
   rotate_left
   ·intro w_;go_simp <;> rfl
   rintro e wN ⟨rfl,hbx⟩
   clear hxF
   refine ⟨_,F3,rfl,Zh hbx,(ZT hFT.out hbx).lt,?_⟩
   replace hacc:=(Zb F3 NQ).trans _ _ _ hacc (YX hFT.out (Zh hbx))
   replace hFT:=Lib.hid (Xw hFT.out (Zh hbx) ((ZT hFT.out hbx).lt))
   simp only [Act.put,zLa,zLb,zLc]
   replace H8:=Lib.hid (H8.out.below hbx)
   replace KT8:=Lib.hid (Zz KT8.out hbx)
   replace M8:=Lib.hid (M8.out.trans (Zh hbx))
   clear hbx
   refine VE (f:=?_) (vals:=?_) rfl rfl rfl hFT ?_ (fun wF hxF=>?_)
   rotate_left 3
   replace H8:=Lib.hid (H8.out.below hxF)
   replace KT8:=Lib.hid (Zz KT8.out hxF)
   replace M8:=Lib.hid (M8.out.trans (Zh hxF))
   replace hacc:=(Zb F3 NQ).trans _ _ _ hacc (Zm hxF hFT.out.size)
   replace hFT:=Lib.hid (ZT hFT.out hxF)
   refine (UW (VA KT8.out) HTK.out).mono ?_
   rotate_left
   ·intro w_;go_simp <;> rfl
   rintro e wN ⟨rfl,hbx⟩
   clear hxF
   refine ⟨_,F3,rfl,Zh hbx,(ZT hFT.out hbx).lt,?_⟩
   replace hacc:=(Zb F3 NQ).trans _ _ _ hacc (YX hFT.out (Zh hbx))
   replace hFT:=Lib.hid (Xw hFT.out (Zh hbx) ((ZT hFT.out hbx).lt))
   simp only [Act.put,zLa,zLb,zLc]
   replace H8:=Lib.hid (H8.out.below hbx)
   replace KT8:=Lib.hid (Zz KT8.out hbx)
   replace M8:=Lib.hid (M8.out.trans (Zh hbx))
   clear hbx
   obtain ⟨rt,hrt⟩:∃ rt,rt=YI TL:=⟨_,rfl⟩
   simp only [←hrt]
   have HRT:=Lib.hid hrt
   have hrtQ:=Lib.hid (show rt<Zg by rw [hrt];exact xm HTA.out)
   clear hrt
   refine yo rfl rfl rfl hFT (fun wF hxF=>?_)
   replace H8:=Lib.hid (H8.out.below hxF)
   replace KT8:=Lib.hid (Zz KT8.out hxF)
   replace M8:=Lib.hid (M8.out.trans (Zh hxF))
   replace hacc:=(Zb F3 NQ).trans _ _ _ hacc (Zm hxF hFT.out.size)
   replace hFT:=Lib.hid (ZT hFT.out hxF)
   refine ⟨.slice (some ⟨wF.heap.size,0,none⟩) 1 1,wF.alloc (.cells #[.int .u64 (rt:Int)] 26),by go_simp <;> rfl,(Below.refl _ _).alloc (Nat.le_refl _) _,?_⟩
   have hbx:=(Below.refl wF.heap.size wF).alloc (Nat.le_refl _) (.cells #[.int .u64 (rt:Int)] 26)
   have kp:=Blk.new wF 26 #[.int .u64 (rt:Int)]
   have nFp:¬F3 wF.heap.size:=fun e=>by have:=H8.out.lt _ e;omega
   replace H8:=Lib.hid (H8.out.below hbx)
   replace KT8:=Lib.hid (Zz KT8.out hbx)
   replace M8:=Lib.hid (M8.out.trans (Zh hbx))
   replace hacc:=(Zb F3 NQ).trans _ _ _ hacc (Zm hbx hFT.out.size)
   replace hFT:=Lib.hid (ZT hFT.out hbx)
   try simp only [Act.put,zLa,zLb,zLc]
   generalize wF.alloc _=wP at hbx kp H8 KT8 M8 hacc hFT ⊢
   generalize wF.heap.size=gp at kp nFp ⊢
   have hrt64:rt<18446744073709551616:=by have:=hrtQ.out;unfold Zg at this;omega
   have KPL:=Lib.hid (show ∀ x∈[rt],x<18446744073709551616 from ZP hrt64 (fun _ h=>nomatch h))
   have HRT64:=Lib.hid hrt64
   have KP:=Lib.hid kp
   clear hbx hxF hrt64 kp
   repeat (first | (refine Jf rfl rfl (fun _ _ _ h=>h) ?_;simp only [Act.put,zLa,zLb,zLc]) | (refine Ue (v:=?_) rfl rfl hFT (fun _ _ _ h=>h) ?_ ?_;rotate_left;(· (intro w' hR;(first | have hcells:=Zx ((Zb F3 NQ).trans _ _ _ hacc hR) | skip);go_simp;try with_reducible rfl));simp only [Act.put,zLa,zLb,zLc]))
   obtain ⟨st2,hst2⟩:∃ st2,st2=ZM O1 18 [st,2,rt]:=⟨_,rfl⟩
   obtain ⟨O2,hO2⟩:∃ O2,O2=ZA O1 18 [st,2,rt]:=⟨_,rfl⟩
   have HST2:=Lib.hid (show st2<18446744073709551616 by rw [hst2];have:=VD H8.out.ok.ans 18 [st,2,rt];unfold Zg at this;omega)
   have HS2:=Lib.hid hst2
   have HO2:=Lib.hid hO2
   have HL2:=Lib.hid (show ZV O2 900000 by rw [hO2];exact Zs (Xt HL1.out 18 _) (by decide))
   clear hst2 hO2
   refine VE (f:=?_) (vals:=?_) rfl rfl rfl hFT ?_ (fun wF hxF=>?_)
   rotate_left 3
   replace H8:=Lib.hid (H8.out.below hxF)
   replace KT8:=Lib.hid (Zz KT8.out hxF)
   replace M8:=Lib.hid (M8.out.trans (Zh hxF))
   replace KP:=Lib.hid (KP.out.below hxF KP.out.lt)
   replace hacc:=(Zb F3 NQ).trans _ _ _ hacc (Zm hxF hFT.out.size)
   replace hFT:=Lib.hid (ZT hFT.out hxF)
   refine (KI H8.out st 0 2 (some ⟨gp,0,none⟩) 1 1 [rt] (Yj (l:=[rt]) KP.out rfl KPL.out (by simp [maxLen])) (by simp) HSL.out (by decide) (Zs HL1.out (by decide))).mono ?_
   rotate_left
   ·intro w_;go_simp <;> rfl
   rintro e w9 ⟨rfl,F4,h9,m9⟩
   clear hxF
   refine ⟨_,F4,rfl,m9,h9.lt,?_⟩
   replace hacc:=(Zb F3 NQ).trans _ _ _ hacc (YX hFT.out (m9))
   replace hFT:=Lib.hid (Xw hFT.out (m9) (h9.lt))
   simp only [Act.put,zLa,zLb,zLc]
   rw [←HO2.out] at h9
   simp only [←HS2.out]
   replace H8:=Lib.hid h9
   replace KT8:=Lib.hid (Xf KT8.out m9 fun b hb=>(HT7.out b hb).2.2)
   replace M8:=Lib.hid (M8.out.trans m9)
   clear h9 m9 KP nFp
   refine VE (f:=?_) (vals:=?_) rfl rfl rfl hFT ?_ (fun wF hxF=>?_)
   rotate_left 3
   replace H8:=Lib.hid (H8.out.below hxF)
   replace KT8:=Lib.hid (Zz KT8.out hxF)
   replace M8:=Lib.hid (M8.out.trans (Zh hxF))
   replace hacc:=(Zb F3 NQ).trans _ _ _ hacc (Zm hxF hFT.out.size)
   replace hFT:=Lib.hid (ZT hFT.out hxF)
   refine (Jo H8.out st2 0 n cm (Nat.le_trans HN16.out (by decide)) HCL.out HST2.out (by decide) HL2.out).mono ?_
   rotate_left
   ·intro w_;go_simp <;> rfl
   rintro e w10 ⟨gr,dr,F5,rfl,h10,m10,own10,nr5⟩
   clear hxF
   refine ⟨_,F5,rfl,m10,h10.lt,?_⟩
   replace hacc:=(Zb F3 NQ).trans _ _ _ hacc (YX hFT.out (m10))
   replace hFT:=Lib.hid (Xw hFT.out (m10) (h10.lt))
   simp only [Act.put,zLa,zLb,zLc]
   obtain ⟨T3,hT3⟩:∃ T3,T3=Zv O2 19 (YH st2 0 cm):=⟨_,rfl⟩
   obtain ⟨PL,hPL⟩:∃ PL,PL=Kf O2 st2 0 n cm:=⟨_,rfl⟩
   rw [←hT3] at h10
   rw [←hPL] at own10
   replace own10:=UQ own10 (Nat.zero_le _)
   have HT3:=Lib.hid hT3
   have HL3:=Lib.hid (show ZV T3 300000 by
    rw [hT3]
    refine Zs (Yk (lab:=19) (YH st2 0 cm) (show ZV O2 1001 by rw [HO2.out];exact Xt HL1.out 18 _)) ?_
    have:=HCL.out
    have:=HN16.out
    simp only [YH,List.length_map,List.length_range]
    omega)
   have HAS:=Lib.hid (show ∀ lab el a,Yv O1 lab el a→Yv T3 lab el a from fun lab el a h=>by
    rw [hT3,HO2.out]
    exact Vs (UJ h 18 _) 19 _)
   have HPLL:=Lib.hid (show PL.length=cm by rw [hPL];exact yP _ _ _ _ _ HCL.out)
   have HPLN:=Lib.hid (show ∀ x∈PL,x<n by rw [hPL];exact xq _ _ _ _ _ HCL.out)
   have nT4:∀ b,T b→¬F4 b:=fun b hb=>Zn M8.out (by rw [←HNQ.out];have:=(HT7.out b hb).2.1;omega) (HT7.out b hb).2.2
   replace H8:=Lib.hid h10
   replace KT8:=Lib.hid (Xf KT8.out m10 nT4)
   replace M8:=Lib.hid (M8.out.trans m10)
   have OW:=Lib.hid own10
   clear h10 m10 own10 hT3 hPL nT4
   repeat (first | (refine Jf rfl rfl (fun _ _ _ h=>h) ?_;simp only [Act.put,zLa,zLb,zLc]) | (refine Ue (v:=?_) rfl rfl hFT (fun _ _ _ h=>h) ?_ ?_;rotate_left;(· (intro w' hR;(first | have hcells:=Zx ((Zb F3 NQ).trans _ _ _ hacc hR) | skip);go_simp;try with_reducible rfl));simp only [Act.put,zLa,zLb,zLc]))
   refine xw hFT (fun oj wE gE hoj hxE kE hgE hvE=>?_)
   obtain rfl:=Option.some.inj hoj
   clear hoj
   replace H8:=Lib.hid (H8.out.below hxE)
   replace KT8:=Lib.hid (Zz KT8.out hxE)
   replace M8:=Lib.hid (M8.out.trans (Zh hxE))
   replace OW:=Lib.hid (Yp OW.out hxE (Nat.le_refl _))
   replace hacc:=(Zb F3 NQ).trans _ _ _ hacc (Zm hxE hFT.out.size)
   replace hFT:=Lib.hid (ZT hFT.out hxE)
   simp only [Act.put,zLa,zLb,zLc]
   have cE0:=kE.cell 0
   have cE1:=kE.cell 1
   have fE:=kE.frozen
   repeat (first | (refine ZK (Zb F3 NQ) rfl rfl (fun _ _ _ h=>h) ?_;simp only [Act.put,zLa,zLb,zLc]) | (refine Zy (v:=?_) (Zb F3 NQ) rfl rfl (fun _ _ _ h=>h) ?_ ?_;rotate_left;(· (intro w' hR;(first | have hcells:=Zx ((Zb F3 NQ).trans _ _ _ hacc hR) | skip);go_simp;try with_reducible rfl));simp only [Act.put,zLa,zLb,zLc]))
   refine Z6 (Zb F3 NQ) rfl rfl rfl ?_
   go_simp
   refine ⟨Zm ((KE _ _ hgE).trans (KE _ _ hgE)) (Nat.le_refl _),?_⟩
   try simp only [Act.put,zLa,zLb,zLc]
   refine Yd ?_
   have OWE:=Lib.hid (Gz OW.out kE (by decide))
   have hgr:gr≠gE:=fun e=>OWE.out gr rfl (by rw [e])
   have M9:=Lib.hid (ZX (ZX M8.out (by rw [←HNQ.out];exact hgE) 0 (.int .u64 (st2:Int))) (by rw [←HNQ.out];exact hgE) 1 (.int .u64 (cm:Int)))
   have H9:=Lib.hid ((H8.out.set hvE (.int .u64 (st2:Int)) (i:=0)).set hvE (.int .u64 (cm:Int)) (i:=1))
   have OW9:=Lib.hid (ZE OW.out (u:=(wE.setCell ⟨gE,0,none⟩ (.int .u64 (st2:Int))).setCell ⟨gE,1,none⟩ (.int .u64 (cm:Int))) fun b hb=>by
    obtain rfl:gr=b:=Option.some.inj hb
    rw [Below.heap_setCell _ ⟨gE,1,none⟩ _ gr hgr,Below.heap_setCell _ ⟨gE,0,none⟩ _ gr hgr])
   generalize ((wE.setCell ⟨gE,0,none⟩ (.int .u64 (st2:Int))).setCell ⟨gE,1,none⟩ (.int .u64 (cm:Int)))=wZ at M9 H9 OW9 ⊢
   clear OWE hgr cE0 cE1 fE kE hvE hgE hacc hFT H8 KT8 M8 OW hxE
   have eL:((cm:Int) != (cm:Int))=false:=by simp
   have Hnr5:=Lib.hid nr5
   have kbz:=KB.out.moved M9.out nW
   have cb:=kbz.cell
   clear nr5
   go_upto_region 14 with fail
   go_loopw [76] (fun y wr=>∃ (i:Nat) (F6:Nat→Prop),i≤cm∧y= .int .i64 (i:Int)∧OrcAt wr (gk j) T3 F6∧Moved F3 F6 w7 wr∧wr.ownsRow 0 3 1 (.slice (some ⟨gr,0,none⟩) cm dr) cm (I64 (Vz PL))∧¬F6 gr) (fun y _=>cm-(intOf y).toNat)
   case atStart=>exact ⟨0,F5,Nat.zero_le _,rfl,H9.out,M9.out,OW9.out,Hnr5.out⟩
   case round =>
    clear M9 H9 OW9 kbz cb Hnr5
    obtain ⟨i,F6,hi,rfl,h6,m6,ow,n6⟩:=hrel
    by_cases hlt2:i<cm
    ·obtain ⟨x,hx⟩:∃ x,x=PL.getD i 0:=⟨_,rfl⟩
     have hxn:x<n:=by rw [hx];exact HPLN.out _ (YM 0 (by rw [HPLL.out];exact hlt2))
     have hcp:wr.cell? ⟨gr,i,none⟩=some (.int .i64 (x:Int)):=by
      obtain ⟨b,q,e,hb,hc⟩:=GZ (Rd.of_own ow) (by omega)
      injection e with e
      injection e with e1 e2
      subst e1 e2
      have:=hc i hlt2
      rw [Nat.zero_add] at this
      rw [this]
      simp [I64,Vz,hx,HPLL.out,hlt2,List.getD_eq_getElem?_getD]
     have g3:(0:Int)≤(i:Int):=by omega
     have g4:(i:Int)<(cm:Int):=by omega
     have g5:(0:Int)≤(x:Int):=by omega
     have g6:(x:Int)<(n:Int):=by omega
     have HX:=Lib.hid hx
     have HXN:=Lib.hid hxn
     have HLT2:=Lib.hid hlt2
     have HI16:=Lib.hid (show i<16 by have:=HCL.out;have:=HN16.out;omega)
     have hbr:Below W.heap.size W wr:=Yf HB.out m6 HFG.out
     have F6g:=Uy m6 HFG.out HB.out.size
     have kbr:=KB.out.moved m6 nW
     have cb:=kbr.cell
     have lb:=kbr.lt
     have nWr:=Zn m6 KB.out.lt nW
     have kTr:=KT1.out.moved m6 nT
     have cT:=kTr.cell 0
     have lT:=kTr.lt
     have nTr:=Zn m6 KT1.out.lt nT
     obtain ⟨b,q,A1,m1,c1,eA,hKb,hbl,hcell,hrow⟩:=J7 (GN HLS.out hbr) (show x<ls.length by rw [←HN.out];exact hxn)
     have hnB:=(ZO HSA.out).1
     obtain ⟨b2,q2,eB,hb2,hc2⟩:=ZN (l:=sa) (by rw [←hnB];exact (ZO HSA.out).2.2.2.2) (show x<sa.length by rw [hsl,←HN.out];exact hxn)
     have hcell2:=(Below.cell hbr (p:=⟨b2,q2+x,none⟩) hb2).trans hc2
     have hbl2:b2<wr.heap.size:=Nat.lt_of_lt_of_le hb2 hbr.size
     have g7:(x:Int)<(m:Int):=by have:=HN.out;omega
     have nb:¬F6 b:=fun e=>by have:=F6g b e;omega
     have nb2:¬F6 b2:=fun e=>by have:=F6g b2 e;omega
     subst eA eB
     obtain ⟨sx,hsx⟩:∃ sx,sx=sa.getD x 0:=⟨_,rfl⟩
     obtain ⟨lx,hlx⟩:∃ lx,lx=ls.getD x []:=⟨_,rfl⟩
     rw [←hsx] at hcell2
     rw [←hlx] at hrow
     have HFIT:=Lib.hid (HOF.out T3 HAS.out x (by rw [←HN.out];exact hxn))
     rw [←hsx,←hlx,←HN.out,←HRT.out] at HFIT
     have HROW:=Lib.hid hrow
     have HLX:=Lib.hid (show lx.length≤20 by rw [hlx];exact hll _ (YM [] (by rw [←HN.out];exact hxn)))
     have KTx:=Lib.hid (Xf KT7.out m6 fun b hb=>(HT7.out b hb).2.2)
     have H6:=Lib.hid h6
     have M6:=Lib.hid m6
     have OWr:=Lib.hid ow
     obtain ⟨ND,hND⟩:∃ ND,ND=wr.heap.size:=⟨_,rfl⟩
     have HND:=Lib.hid hND
     rw [←hND] at lb lT hbl hbl2
     have F6G:=Lib.hid F6g
     have HF6:=Lib.hid h6.lt
     have HFT0:Hid (VZ F6 ND F6 wr):=Lib.hid (by rw [hND];exact US h6.lt)
     clear hc2 hx hxn hlt2 hbr kbr kTr hrow hsx hlx h6 m6 ow hND F6g hnB
     go_upto_region 16 with fail
     refine Z7 (Yl F6 ND) [2,17,19] [0,1,3,4,5,6,7,8,9,10,11,12,13,14,15,16,2,17,18,19,20] (by kernel_rfl) (by kernel_rfl) ?_
     refine Z4 (Zb F6 ND) ?_
     intro Wc HWc hacc
     have H7:=Lib.hid (show OrcAt Wc (gk j) T3 F6 by rw [HWc.out];exact H6.out.drew)
     have hb0:=Lib.hid (show Below wr.heap.size wr Wc by rw [HWc.out];exact ⟨rfl,rfl,rfl,Nat.le_refl _,fun _ _=>rfl⟩)
     have KTc:=Lib.hid (Zz KTx.out hb0.out)
     have hNc:ND≤Wc.heap.size:=by rw [HND.out];exact hb0.out.size
     have HX2:=Lib.hid (show x<2^dd by rw [←hn,←HN.out];exact HXN.out)
     have HTL:=Lib.hid (show ∀ k j,(TL.getD k []).getD j 0<18446744073709551616 from fun k j=>by have:=Jd HTA.out k j;unfold Zg at this;omega)
     clear HWc H6
     repeat (first | (refine ZK (Zb F6 ND) rfl rfl (fun _ _ _ h=>h) ?_;simp only [Act.put,zLa,zLb,zLc]) | (refine Zy (v:=?_) (Zb F6 ND) rfl rfl (fun _ _ _ h=>h) ?_ ?_;rotate_left;(· (intro w' hR;(first | have hcells:=Zx ((Zb F6 ND).trans _ _ _ hacc hR) | skip);go_simp;try with_reducible rfl));simp only [Act.put,zLa,zLb,zLc]))
     refine YF (Zb F6 ND) rfl rfl rfl (fun _=>by go_simp <;> rfl) ((UW (VA KTc.out) HTK.out).mono ?_)
     rintro e w10 ⟨rfl,hbx⟩
     refine ⟨_,rfl,Zm hbx hNc,?_⟩
     replace hacc:=(Zb F6 ND).trans _ _ _ hacc (Zm hbx hNc)
     simp only [Act.put,zLa,zLb,zLc]
     simp only [←HRT.out]
     replace H7:=Lib.hid (H7.out.below hbx)
     replace KTc:=Lib.hid (Zz KTc.out hbx)
     replace hb0:=Lib.hid (Za hb0.out hbx)
     replace hNc:=Nat.le_trans hNc hbx.size
     clear hbx
     have HS10:=Lib.hid hb0.out.size
     repeat (first | (refine ZK (Zb F6 ND) rfl rfl (fun _ _ _ h=>h) ?_;simp only [Act.put,zLa,zLb,zLc]) | (refine Zy (v:=?_) (Zb F6 ND) rfl rfl (fun _ _ _ h=>h) ?_ ?_;rotate_left;(· (intro w' hR;(first | have hcells:=Zx ((Zb F6 ND).trans _ _ _ hacc hR) | skip);go_simp;try with_reducible rfl));simp only [Act.put,zLa,zLb,zLc]))
     refine YF (Zb F6 ND) rfl rfl rfl (fun _=>by go_simp <;> rfl) ((yF (VA KTc.out) HTK.out HX2.out HTL.out).mono ?_)
     rintro e w11 ⟨v,rfl,hpown,hbx⟩
     refine ⟨_,rfl,Zm hbx hNc,?_⟩
     replace hacc:=(Zb F6 ND).trans _ _ _ hacc (Zm hbx hNc)
     simp only [Act.put,zLa,zLb,zLc]
     replace H7:=Lib.hid (H7.out.below hbx)
     replace hb0:=Lib.hid (Za hb0.out hbx)
     have hv2:∃ A' c',v= .slice A' dd c':=by obtain ⟨A',c',e,-⟩:=ZY hpown;exact ⟨A',c',e⟩
     obtain ⟨Ap,cp,rfl⟩:=hv2
     have hkp:=X6 hpown (fun y hy=>by have:=KH HTA.out x y hy;unfold Zg at this;omega)
     have hpl:(Ys TL x).length=dd:=by have:=(Yw hkp);obtain ⟨A',c',e,-⟩:=this;injection e with e1 e2 e3;omega
     have hKK:∀ b,(b<W.heap.size∨(Value.slice Ap dd cp).ownBlock=some b)→b<w11.heap.size∧¬F6 b:=fun b hb=>by
      rcases hb with hb | hb
      ·have:=hb0.out.size
       have:=HND.out
       exact ⟨by omega,fun e=>by have:=F6G.out b e;omega⟩
      ·have h1:=hpown.lt b hb
       refine ⟨h1.2,fun e=>?_⟩
       have:=HF6.out b e
       have:=HS10.out
       omega
     have HV:=Lib.hid (GB H7.out rt n x sx A1 Ap m1 c1 dd cp lx (Ys TL x) (K:=fun b=>b<W.heap.size∨(Value.slice Ap dd cp).ownBlock=some b) (Yx (ZF HROW.out hb0.out) fun _ h=>.inl h) (Yx hkp fun _ h=>.inr h) hKK (by have:=HLX.out;omega) (by rw [hpl];omega) HL3.out)
     replace hNc:=Nat.le_trans hNc hbx.size
     clear hkp hpown hbx hKK
     repeat (first | (refine ZK (Zb F6 ND) rfl rfl (fun _ _ _ h=>h) ?_;simp only [Act.put,zLa,zLb,zLc]) | (refine Zy (v:=?_) (Zb F6 ND) rfl rfl (fun _ _ _ h=>h) ?_ ?_;rotate_left;(· (intro w' hR;(first | have hcells:=Zx ((Zb F6 ND).trans _ _ _ hacc hR) | skip);go_simp;try with_reducible rfl));simp only [Act.put,zLa,zLb,zLc]))
     refine YF (Zb F6 ND) rfl rfl rfl (fun _=>by go_simp <;> rfl) ((HV.out).mono ?_)
     rintro e w12 ⟨F7,rfl,h12,m12⟩
     refine ⟨_,rfl,YL m12 hNc (fun b _ h=>h),?_⟩
     replace hacc:=(Zb F6 ND).trans _ _ _ hacc (YL m12 hNc (fun b _ h=>h))
     simp only [Act.put,zLa,zLb,zLc]
     rw [HFIT.out.2] at h12
     simp only [HFIT.out.1]
     have H12:=Lib.hid h12
     have M12:=Lib.hid ((M6.out.trans (Zh hb0.out)).trans m12)
     have OW12:=Lib.hid (YU (Yp OWr.out hb0.out (Nat.le_refl _)) m12 fun b hb=>by
      obtain rfl:gr=b:=Option.some.inj hb
      exact n6)
     have n12:¬F7 gr:=Zn m12 (Nat.lt_of_lt_of_le ((OWr.out.lt gr rfl).2) hb0.out.size) n6
     clear h12 m12
     repeat (first | (refine ZK (Zb F6 ND) rfl rfl (fun _ _ _ h=>h) ?_;simp only [Act.put,zLa,zLb,zLc]) | (refine Zy (v:=?_) (Zb F6 ND) rfl rfl (fun _ _ _ h=>h) ?_ ?_;rotate_left;(· (intro w' hR;(first | have hcells:=Zx ((Zb F6 ND).trans _ _ _ hacc hR) | skip);go_simp;try with_reducible rfl));simp only [Act.put,zLa,zLb,zLc]))
     refine Yd ?_
     go_wp2
     go_roundw
     case rel=>exact ⟨i+1,F7,by have:=HLT2.out;omega,JQ (Nat.lt_of_lt_of_le HI16.out (by decide)),H12.out,M12.out,OW12.out,n12⟩
     case measure=>exact zF HLT2.out (Nat.lt_of_lt_of_le HI16.out (by decide))
    ·have ei:cm=i:=by omega
     subst ei
     go_wp2
     go_roundw
     case rel =>
      refine ⟨j+1,by have:=HL.out;omega,by go_num,Yf HB.out m6 HFG.out,KB.out.moved m6 nW,KS.out.moved m6 nS,fun k h1 h2=>?_⟩
      obtain rfl:k=j+1:=by omega
      exact (HKN7.out h2).moved m6 fun b hb' hb3=>HD7.out h2 b hb' hb3
     case measure=>have:=HL.out;simp [intOf];omega
  ·go_wp2_with fail
   go_ret
   exact ⟨rfl,hb⟩
theorem wfu64 {n:Int} (h:(Lit.int .u64 n).wf=true):∃ m:Nat,n=(m:Int)∧m<18446744073709551616:=by
 simp [Lit.wf,IntKind.min,IntKind.max,IntKind.signed,IntKind.bits] at h
 exact ⟨n.toNat,by omega,by omega⟩
theorem wfu8 {n:Int} (h:(Lit.int .u8 n).wf=true):∃ m:Nat,n=(m:Int)∧m<256:=by
 simp [Lit.wf,IntKind.min,IntKind.max,IntKind.signed,IntKind.bits] at h
 exact ⟨n.toNat,by omega,by omega⟩
theorem Va (W:World) (cs0:Array Value) (f0:Fits Try.prog W 25 (Value.agg cs0).cells.toList) (a1:Int) (h1:(Lit.int .u64 a1).wf=true) (a2:Int) (h2:(Lit.int .u8 a2).wf=true) :
  Calls Try.prog 3 #[.agg cs0, .int .u64 a1, .int .u8 a2] W fun e W'=>e= .returned (.bool true)∧Below W.heap.size W W':=by
 obtain ⟨s,rfl,hs⟩:=wfu64 h1
 obtain ⟨c,rfl,hc⟩:=wfu8 h2
 exact Vy W cs0 f0 s hs c hc
end Go.Proofs.Ytbiieaiahdihnaa
