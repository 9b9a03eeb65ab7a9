/- A part of the proof. No condition. -/
import Derived.Test.YtbiieaiahdihnaaProg
import Derived.Test.YtbiieaiahdihnaaOP19
import Derived.Test.YtbiieaiahdihnaaOP25
import Derived.Test.YtbiieaiahdihnaaOP14
import Derived.Test.YtbiieaiahdihnaaOP31
import Derived.Test.YtbiieaiahdihnaaOP22
import Derived.Test.YtbiieaiahdihnaaOP21

namespace Go.Proofs.Ytbiieaiahdihnaa
open Go.RowKit
def U9 (p:Nat) (s:St) (k x:Nat):St:=if k=0 then ⟨(s.a+x)%p,s.b,s.c⟩ else ⟨s.a,(s.b+x)%p,s.c⟩
def Jr (s:St) (k x:Nat):St:=if k=0 then ⟨x,s.b,s.c⟩ else ⟨s.a,x,s.c⟩
def atK (s:St) (k:Nat):Nat:=if k=0 then s.a else s.b
def Uk (p n i:Nat) (s:St):St:=if i%2=1∨i+1=n then Yq p s else s
def Vg (p:Nat) (l:List Nat) (s0:St):Nat→St
 | 0=>s0
 | i+1=>Uk p l.length i (U9 p (Vg p l s0 i) (i%2) (l.getD i 0))
def Vd (p:Nat) (l:List Nat) (s0:St) (i:Nat):Nat:=(atK (Vg p l s0 i) (i%2)+l.getD i 0)%p
def Jl (p:Nat) (l:List Nat) (s0:St):Nat→St
 | 0=>s0
 | i+1=>Uk p l.length i (Jr (Jl p l s0 i) (i%2) (l.getD i 0))
def XM (p:Nat) (l:List Nat) (s0:St) (i:Nat):Nat:=(l.getD i 0+Uc p (atK (Jl p l s0 i) (i%2)))%p
def ZR (p key nonce n:Nat):St:=Yq p ⟨key,nonce,(12*65536+n)%p⟩
def Y2 (p key nonce:Nat) (l:List Nat):List Nat:=(List.range l.length).map (Vd p l (ZR p key nonce l.length))++[(Vg p l (ZR p key nonce l.length) l.length).a]
def GH (p key nonce:Nat) (l:List Nat):List Nat:=(List.range l.length).map (XM p l (ZR p key nonce l.length))
def GF (p key nonce:Nat) (l:List Nat):Nat:=(Jl p l (ZR p key nonce l.length) l.length).a
theorem yK {p:Nat} (hp:0<p) {n i:Nat} {s:St} (h:s.lt p):(Uk p n i s).lt p:=by
 unfold Uk
 split
 ·exact XY hp s
 ·exact h
theorem Ja {p:Nat} (hp:0<p) (l:List Nat) {s0:St} (h:s0.lt p):∀ i,(Vg p l s0 i).lt p
 | 0=>h
 | i+1=>by
  have ih:=Ja hp l h i
  refine yK hp ?_
  unfold U9
  split
  ·exact ⟨Nat.mod_lt _ hp,ih.2.1,ih.2.2⟩
  ·exact ⟨ih.1,Nat.mod_lt _ hp,ih.2.2⟩
theorem xN {p:Nat} {s:St} (h:s.lt p) (k:Nat):atK s k<p:=by
 unfold atK
 split
 ·exact h.1
 ·exact h.2.1
theorem xa (p:Nat) (s:St) (k x:Nat):U9 p s k x=Jr s k ((atK s k+x)%p):=by
 unfold U9 Jr atK
 split <;> rfl
theorem Vn {p:Nat} {l c:List Nat} {s0:St} (hc:c.length=l.length) (hg:∀ i,i<l.length→c.getD i 0=Vd p l s0 i):∀ i,i≤l.length→Jl p c s0 i=Vg p l s0 i
 | 0,_=>rfl
 | i+1,h=>by
  have ih:=Vn hc hg i (by omega)
  simp only [Jl,Vg]
  rw [ih,hg i (by omega),hc,xa]
  rfl
theorem xf {p s x:Nat} (hs:s<p) (hx:x<p):((s+x)%p+Uc p s)%p=x:=by
 unfold Uc
 rw [Nat.mod_eq_of_lt hs]
 split
 ·rename_i h
  subst h
  rw [Nat.zero_add,Nat.mod_eq_of_lt hx,Nat.add_zero,Nat.mod_eq_of_lt hx]
 ·rw [Nat.mod_add_mod,show s+x+(p-s)=x+p by omega,Nat.add_mod_right,Nat.mod_eq_of_lt hx]
theorem zL {p key nonce:Nat} {l:List Nat} (hp:0<p) (hl:∀ x∈l,x<p) :
  GH p key nonce ((Y2 p key nonce l).take l.length)=l∧GF p key nonce ((Y2 p key nonce l).take l.length)=(Y2 p key nonce l).getD l.length 0:=by
 have e0:(Y2 p key nonce l).take l.length=(List.range l.length).map (Vd p l (ZR p key nonce l.length)):=by
  unfold Y2
  rw [List.take_append_of_le_length (by simp),List.take_of_length_le (by simp)]
 have e1:(Y2 p key nonce l).getD l.length 0=(Vg p l (ZR p key nonce l.length) l.length).a:=by
  unfold Y2
  rw [List.getD_eq_getElem?_getD,List.getElem?_append_right (by simp)]
  simp
 rw [e0,e1]
 have hc:((List.range l.length).map (Vd p l (ZR p key nonce l.length))).length=l.length:=by simp
 generalize hcc:(List.range l.length).map (Vd p l (ZR p key nonce l.length))=c at hc ⊢
 have hg:∀ i,i<l.length→c.getD i 0=Vd p l (ZR p key nonce l.length) i:=fun i hi=>by
  rw [←hcc]
  simp [List.getD_eq_getElem?_getD,hi]
 unfold GH GF
 rw [hc]
 have hs0:(ZR p key nonce l.length).lt p:=XY hp _
 generalize ZR p key nonce l.length=s0 at *
 refine ⟨?_,by rw [Vn hc hg _ (Nat.le_refl _)]⟩
 refine List.ext_getElem (by simp) fun i h1 h2=>?_
 simp only [List.getElem_map,List.getElem_range]
 have hx:l.getD i 0=l[i]:=by rw [List.getD_eq_getElem?_getD,List.getElem?_eq_getElem h2];rfl
 have hxl:l.getD i 0<p:=by rw [hx];exact hl _ (List.getElem_mem h2)
 unfold XM
 rw [Vn hc hg i (by omega),hg i h2]
 unfold Vd
 rw [xf (xN (Ja hp l hs0 i) _) hxl,hx]
theorem yH {p:Nat} (hp:0<p) (l:List Nat) (s0:St) (i:Nat):Vd p l s0 i<p:=Nat.mod_lt _ hp
theorem zW {p key nonce:Nat} (hp:0<p) (l:List Nat):∀ x∈Y2 p key nonce l,x<p:=by
 intro x hx
 unfold Y2 at hx
 rcases List.mem_append.1 hx with hx | hx
 ·obtain ⟨i,_,rfl⟩:=List.mem_map.1 hx
  exact yH hp _ _ _
 ·rw [List.mem_singleton.1 hx]
  exact (Ja hp l (XY hp _) _).1
set_option maxRecDepth 100000 in
set_option maxHeartbeats 400000 in
theorem Vh (key nonce:Nat) (A:Option Addr) (n c:Nat) (l:List Nat) (w:World) (hl:RWd w [.slice A n c] l) (hk:key<Zg) (hn:nonce<Zg) (he:ZB l=true) :
  Calls Try.prog 49 #[.int .u64 (key:Int), .int .u64 (nonce:Int), .slice A n c] w fun e w'=>e= .returned (.bool true)∧w=w':=by
 obtain ⟨rfl,h1,h2,-,hrd⟩:=ZO hl
 have gm:=YY h1 h2
 have d1:decide ((18446744069414584321:Int)≤(key:Int))=false:=decide_eq_false (by unfold Zg at hk;omega)
 have d2:decide ((18446744069414584321:Int)≤(nonce:Int))=false:=decide_eq_false (by unfold Zg at hn;omega)
 have HE:=Lib.hid he
 clear hl h1 h2 hk hn he
 go_enter Try.func49,Try.ntmps49
 go_wp2_with fail
 go_loop [17] (fun i=>∃ j:Nat,j≤l.length∧i= .int .i64 (j:Int)) (fun i=>l.length-(intOf i).toNat)
 case atStart=>exact ⟨0,Nat.zero_le _,rfl⟩
 case round =>
  obtain ⟨j,hj,rfl⟩:=hrel
  by_cases hlt:j<l.length
  ·obtain ⟨b,q,rfl,hbl,hc⟩:=ZN hrd hlt
   have HL:=Lib.hid hlt
   have g1:(0:Int)≤(j:Int):=by omega
   have g2:(j:Int)<(l.length:Int):=by omega
   have hy:l.getD j 0<Zg:=of_decide_eq_true (List.all_eq_true.1 HE.out _ (by rw [List.getD_eq_getElem?_getD,List.getElem?_eq_getElem hlt];exact List.getElem_mem _))
   revert hc hy
   generalize l.getD j 0=y
   intro hc hy
   clear hrd
   have d3:decide ((18446744069414584321:Int)≤(y:Int))=false:=decide_eq_false (by unfold Zg at hy;omega)
   clear hy
   go_wp2
   go_round
   case rel=>exact ⟨j+1,by omega,by go_num⟩
   case measure=>simp [intOf];omega
  ·have e:j=l.length:=by omega
   clear hrd
   go_wp2
   go_ret
   exact ⟨rfl,rfl⟩
set_option maxRecDepth 100000 in
set_option maxHeartbeats 400000 in
theorem Jy (key nonce n:Nat) (w:World) (hn:n≤1000000) :
  Calls Try.prog 51 #[.int .u64 (key:Int), .int .u64 (nonce:Int), .int .i64 (n:Int)] w fun e w'=>e= .returned (ZR Zg key nonce n).val∧Below w.heap.size w w':=by
 have HA:=Lib.hid (fun w=>Ye Zg 786432 n w Ve)
 obtain ⟨q,hq⟩:∃ q,q=(786432+n)%Zg:=⟨_,rfl⟩
 rw [←hq] at HA
 have HP:=Lib.hid (fun w=>YR Zg ⟨key,nonce,q⟩ w Ve)
 obtain ⟨s,hs⟩:∃ s,s=ZR Zg key nonce n:=⟨_,rfl⟩
 have hs2:Yq Zg ⟨key,nonce,q⟩=s:=by rw [hs,hq];rfl
 rw [hs2] at HP
 rw [←hs]
 have e1:IntKind.u64.wrap (n:Int)=(n:Int):=YO _ (by omega)
 obtain ⟨sa,sb,sc⟩:=s
 clear hs2 hs hq
 obtain ⟨kr,kf,hb0,hsz⟩:=Xs w 80 96 #[.int .u64 0, .int .u64 0, .int .u64 0] #[.int .u64 (Zg:Int)]
 unfold fv at HA
 have HB:Hid (Zg=18446744069414584321):=rfl
 rw [HB.out] at HA HP kf kr hb0 hsz
 go_enter Try.func51,Try.ntmps51
 go_upto_region 2 with fail
 generalize (w.alloc _).alloc _=w1 at kr kf hb0 ⊢
 have cf:=kf.cell
 clear hsz
 go_wp2_with fail
 refine (HA.out _).mono ?_
 rintro _ w2 ⟨rfl,hb2⟩
 have kr2:=kr.below hb2 kr.lt
 have hb3:=Za hb0 hb2
 clear cf kf kr hb0 hb2
 go_wp2_with fail
 refine (HP.out _).mono ?_
 rintro _ w3 ⟨rfl,hb4⟩
 have kr3:=kr2.below hb4 kr2.lt
 have hb5:=Za hb3 hb4
 have ev:(St.mk sa sb sc).val= .agg #[.int .u64 (sa:Int), .int .u64 (sb:Int), .int .u64 (sc:Int)]:=rfl
 rw [ev]
 have k4:=ZG kr3 (.int .u64 (sa:Int)) (.int .u64 (sb:Int)) (.int .u64 (sc:Int))
 have hb6:=hb5.trans (Ze (Zr (w:=w3) (g:=w.heap.size) (.int .u64 (sa:Int)) (.int .u64 (sb:Int)) (.int .u64 (sc:Int))) hb5.size (Nat.le_refl _))
 have hc3:=kr3.cell
 have hf3:=kr3.frozen
 clear hb3 hb4 hb5 kr2 kr3 HA HP
 go_wp2_with fail
 generalize ((w3.setCell _ _).setCell _ _).setCell _ _=w4 at k4 hb6 ⊢
 have c0:=k4.cell 0
 have c1:=k4.cell 1
 have c2:=k4.cell 2
 exact bodyPost_ret (v:=.agg #[.int .u64 (sa:Int), .int .u64 (sb:Int), .int .u64 (sc:Int)]) (by simp [results,Try.results51,go_sem,c0,c1,c2]) rfl ⟨rfl,hb6⟩
theorem xg (n:Nat) (hn:n≤1000000) (w:World) :
  (Instr.makeSlice 23 (.int .i64 0) (.int .i64 (n:Int))).run Try.prog w= .ok (.slice (some ⟨w.heap.size,0,none⟩) 0 n) (w.alloc (.cells (madeCells #[.int .u64 0] n) 26)):=by
 obtain ⟨i0,hi,hz0,hz1,hz2⟩:=info_parts z6
 have h:=run_make (P:=Try.prog) w 23 26 i0 (.int .u64 0) Try.underlying23 hi hz0 .i64 .i64 0 (n:Int) (by omega) (by omega) (by rw [hz2];omega) (by omega)
 rw [Int.toNat_natCast] at h
 simpa [hz1,Value.cells] using h
set_option maxRecDepth 100000 in
set_option maxHeartbeats 2000000 in
theorem zo (key nonce:Nat) (A:Option Addr) (n c:Nat) (l:List Nat) (w:World) (hl:RWd w [.slice A n c] l) (hk:key<Zg) (hno:nonce<Zg) (he:ZB l=true) (hlen:l.length≤100000) :
  Calls Try.prog 38 #[.int .u64 (key:Int), .int .u64 (nonce:Int), .slice A n c] w fun e w'=>∃ v,e= .returned v∧w'.ownsRow w.heap.size 26 1 v (n+1) (U64 (Y2 Zg key nonce l))∧Below w.heap.size w w':=by
 have HEL:=Lib.hid (Vh key nonce A n c l w hl hk hno he)
 obtain ⟨rfl,h1,h2,hlt,hrd⟩:=ZO hl
 have HRD:=Lib.hid hrd
 have HST:=Lib.hid (fun w=>Jy key nonce l.length w (by omega))
 have HSL:Hid (Y2 Zg key nonce l=(List.range l.length).map (Vd Zg l (ZR Zg key nonce l.length))++[(Vg Zg l (ZR Zg key nonce l.length) l.length).a]):=rfl
 obtain ⟨s0,hs0⟩:∃ s0,s0=ZR Zg key nonce l.length:=⟨_,rfl⟩
 rw [←hs0] at HST HSL
 obtain ⟨sl,hsl⟩:∃ sl,sl=Y2 Zg key nonce l:=⟨_,rfl⟩
 rw [←hsl] at HSL ⊢
 have HA:=Lib.hid (fun a b w=>Ye Zg a b w Ve)
 have HP:=Lib.hid (fun s w=>YR Zg s w Ve)
 obtain ⟨SF,hSF⟩:∃ SF:Nat→St,SF=fun i=>Vg Zg l s0 i:=⟨_,rfl⟩
 have HSF0:=Lib.hid (show SF 0=s0 by rw [hSF];rfl)
 have HSF:=Lib.hid (fun i=>show SF (i+1)=Uk Zg l.length i (U9 Zg (SF i) (i%2) (l.getD i 0)) by rw [hSF];rfl)
 obtain ⟨SC,hSC⟩:∃ SC:Nat→Nat,SC=Vd Zg l s0:=⟨_,rfl⟩
 have HSC:=Lib.hid (fun i=>show SC i=(atK (SF i) (i%2)+l.getD i 0)%Zg by rw [hSC,hSF];rfl)
 rw [←hSC,show Vg Zg l s0 l.length=SF l.length by rw [hSF]] at HSL
 have HPM:Hid (∀ s,Yq Zg s=Yq Zg s):=fun _=>rfl
 obtain ⟨PM,hPM⟩:∃ PM:St→St,PM=Yq Zg:=⟨_,rfl⟩
 have HP:=Lib.hid (show ∀ (s:St) w,Calls Try.prog 53 #[.int .u64 18446744069414584321,s.val] w fun e w'=>e= .returned (PM s).val∧Below w.heap.size w w' from fun s w=>by rw [hPM];exact HP.out s w)
 have HNX:=Lib.hid (fun i s=>show Uk Zg l.length i s=if i%2=1∨i+1=l.length then PM s else s by rw [hPM];rfl)
 have hba:=(Below.refl w.heap.size w).alloc (Nat.le_refl _) (.cells #[.int .u64 18446744069414584321] 96)
 have kf:=Blk.new w 96 #[.int .u64 18446744069414584321]
 obtain ⟨nn,hnn⟩:∃ nn,nn=l.length:=⟨_,rfl⟩
 have HNN:=Lib.hid hnn
 rw [←hnn] at HEL HST HSL HNX HSF hlen h1 ⊢
 have hmk:=fun w=>xg (nn+1) (by omega) w
 obtain ⟨n1,hn1⟩:∃ n1,n1=nn+1:=⟨_,rfl⟩
 have e1:IntKind.i64.wrap ((nn:Int)+1)=(n1:Int):=by rw [IntKind.wrap_i64];omega
 rw [←hn1] at hmk ⊢
 have HN1:=Lib.hid hn1
 have HLT:=Lib.hid hlt
 have ev0:s0.val= .agg #[.int .u64 (s0.a:Int), .int .u64 (s0.b:Int), .int .u64 (s0.c:Int)]:=rfl
 unfold fv Zg at HA
 have hn1l:n1≤100001:=by omega
 clear hl hk hno he hs0 hsl hSF hSC hPM hlt hrd hnn hn1 h1 h2 HPM
 go_enter Try.func38,Try.ntmps38
 go_wp2_with fail
 refine HEL.out.mono ?_
 rintro _ w1 ⟨rfl,rfl⟩
 go_upto_region 4 with fail
 generalize w.alloc _=w1 at hba kf ⊢
 go_wp2_with fail
 refine (HST.out _).mono ?_
 rintro _ w2 ⟨rfl,hb2⟩
 rw [ev0]
 have kf2:=kf.below hb2 kf.lt
 have hb3:=Za hba hb2
 clear kf hba hb2
 go_upto_region 5 with fail
 have hal:=(Below.refl w2.heap.size w2).alloc (Nat.le_refl _) (.cells #[.int .u64 (s0.a:Int), .int .u64 (s0.b:Int), .int .u64 (s0.c:Int)] 80)
 have ks:Blk (w2.alloc (.cells #[.int .u64 (s0.a:Int), .int .u64 (s0.b:Int), .int .u64 (s0.c:Int)] 80)) w2.heap.size 80 s0.cs:=Blk.new w2 80 #[.int .u64 (s0.a:Int), .int .u64 (s0.b:Int), .int .u64 (s0.c:Int)]
 have lfs:w.heap.size<w2.heap.size:=kf2.lt
 replace kf2:=kf2.below hal kf2.lt
 replace hb3:=Za hb3 hal
 generalize w2.alloc _=w3 at ks kf2 hb3 ⊢
 generalize w2.heap.size=gs at ks lfs ⊢
 have own0:=World.ownsRow_made (base:=gs+1) (e:=26) (size:=1) w3 (madeCells #[.int .u64 0] n1) n1 (by have:=ks.lt;omega) (by simp [maxLen];omega) (by rw [size_madeCells,Nat.mul_one])
 have hal2:=(Below.refl w3.heap.size w3).alloc (Nat.le_refl _) (.cells (madeCells #[.int .u64 0] n1) 26)
 replace ks:=ks.below hal2 ks.lt
 replace kf2:=kf2.below hal2 kf2.lt
 replace hb3:=Za hb3 hal2
 clear hal hal2
 go_wp2_with fail
 generalize w3.alloc _=w4 at own0 ks kf2 hb3 ⊢
 clear hmk
 go_loopw [9,29] (fun s y wr=>∃ i:Nat,i≤nn∧y= .int .i64 (i:Int)∧Blk wr gs 80 (SF i).cs∧Blk wr w.heap.size 96 #[.int .u64 18446744069414584321]∧wr.ownsRow (gs+1) 26 1 s i (U64 ((List.range i).map SC))∧Below w.heap.size w wr) (fun _ y _=>nn-(intOf y).toNat)
 case atStart=>exact ⟨0,Nat.zero_le _,rfl,by rw [HSF0.out];exact ks,kf2,by simpa [U64] using own0,hb3⟩
 case round =>
  clear ks kf2 own0 hb3
  obtain ⟨i,hi,rfl,ks,kf,hown,hb⟩:=hrel
  by_cases hlt:i<nn
  ·obtain ⟨b,q,rfl,hbl,hc⟩:=ZN (HRD.out.below hb) (show i<l.length by rw [←HNN.out];exact hlt)
   have hc':=hc
   have g1:(0:Int)≤(i:Int):=by omega
   have g2:(i:Int)<(nn:Int):=by omega
   obtain ⟨⟨sa,sb,sc⟩,hS⟩:∃ s,s=SF i:=⟨_,rfl⟩
   have HSi:=Lib.hid (HSF.out i)
   have HCi:=Lib.hid (HSC.out i)
   rw [←hS] at ks HSi HCi
   have ks2:Blk wr gs 80 #[.int .u64 (sa:Int), .int .u64 (sb:Int), .int .u64 (sc:Int)]:=ks
   have HX:=Lib.hid (Xb HLT.out (show i<l.length by rw [←HNN.out];exact hlt))
   generalize l.getD i 0=x at *
   have HLI:=Lib.hid hlt
   have e2:IntKind.i64.wrap ((nn:Int)-1)=(nn:Int)-1:=by rw [IntKind.wrap_i64];omega
   clear hS ks hc'
   rcases Nat.mod_two_eq_zero_or_one i with hm | hm
   ·rw [hm] at HSi HCi
    have em:(i:Int).tmod 2=0:=by rw [Int.tmod_eq_emod_of_nonneg (by omega)];omega
    obtain ⟨o,ho⟩:∃ o,o=SC i:=⟨_,rfl⟩
    have ho2:(sa+x)%Zg=o:=by rw [ho,HCi.out];rfl
    have HA1:=Lib.hid (show ∀ w,Calls Try.prog 52 #[.agg #[.int .u64 18446744069414584321], .int .u64 (sa:Int), .int .u64 (x:Int)] w fun e w'=>e= .returned (.int .u64 (o:Int))∧Below w.heap.size w w' from fun w=>by rw [←ho2];exact HA.out sa x w)
    have HADD:=Lib.hid (show U9 Zg ⟨sa,sb,sc⟩ 0 x=⟨o,sb,sc⟩ by rw [←ho2];rfl)
    rw [HADD.out,HNX.out i,hm] at HSi
    have HRS:=Lib.hid (show (List.range i).map SC++[o]=(List.range (i+1)).map SC by rw [ho];exact Vo SC i)
    have HM:=Lib.hid hm
    have cs:=ks2.cell
    have ls:=ks2.lt
    have cf:=kf.cell
    have lf:=kf.lt
    clear hm ho ho2 hlt HCi
    go_wp2_with fail
    refine Zp (ZQ) (later_moves) [10] [10] [0,1,2,3,4,5,6,7,8,9,10] (by kernel_rfl) (by kernel_rfl) ?_
    refine Zo (later_moves) ?_
    intro Wc hacc
    repeat (first | (refine Zf (later_moves) rfl rfl rfl rfl (fun _ _ _ h=>h) ?_;simp only [Act.put,zLa,zLb,zLc]) | (refine Zd (v:=?_) (later_moves) rfl rfl rfl rfl (fun _ _ _ h=>h) ?_ ?_;rotate_left;(· (intro w' hR;(first | have hcells:=Zc ((later_moves).trans _ _ _ hacc hR) | skip);go_simp;try with_reducible rfl));simp only [Act.put,zLa,zLb,zLc]) | (refine Zi (v:=?_) rfl rfl rfl rfl (fun _ _ _ h=>h) ?_ ?_;rotate_left;(· (intro w';go_simp;try with_reducible rfl));simp only [Act.put,zLa,zLb,zLc]))
    refine Zk (later_moves) rfl rfl rfl rfl (fun _ _ _ h=>h) (fun _=>by go_simp <;> rfl) (fun w' hR=>HA1.out _) ?_
    simp only [Act.put,zLa,zLb,zLc]
    repeat (first | (refine Zf (later_moves) rfl rfl rfl rfl (fun _ _ _ h=>h) ?_;simp only [Act.put,zLa,zLb,zLc]) | (refine Zd (v:=?_) (later_moves) rfl rfl rfl rfl (fun _ _ _ h=>h) ?_ ?_;rotate_left;(· (intro w' hR;(first | have hcells:=Zc ((later_moves).trans _ _ _ hacc hR) | skip);go_simp;try with_reducible rfl));simp only [Act.put,zLa,zLb,zLc]) | (refine Zi (v:=?_) rfl rfl rfl rfl (fun _ _ _ h=>h) ?_ ?_;rotate_left;(· (intro w';go_simp;try with_reducible rfl));simp only [Act.put,zLa,zLb,zLc]))
    refine Zt rfl rfl rfl rfl ?_
    intro wh hRh
    replace hacc:=(later_moves).trans _ _ _ hacc hRh
    replace ks2:=ks2.drew.below hacc ks2.lt
    replace kf:=kf.drew.below hacc kf.lt
    replace hb:=Za hb.drew hacc
    replace hown:=Yp (ZE (u:=wr.drew) hown fun _ _=>rfl) hacc (Nat.le_refl _)
    clear cs cf lf ls hacc hRh hc
    have c2:=ks2.cell
    have f2:=ks2.frozen
    go_simp
    refine ⟨fun h=>Bool.noConfusion h,?_⟩
    have hg:wh.grownBy (wh.setCell ⟨gs,0,none⟩ (.int .u64 (o:Int))) (some gs):=Zj (p:=⟨gs,0,none⟩) (Zl wh _) (.inl rfl) _
    replace ks2:=ks2.set_ 0 (.int .u64 (o:Int))
    simp at ks2
    replace kf:=kf.grown hg (fun e=>by have:=Option.some.inj e;omega)
    replace hb:=hb.trans (Ze hg hb.size (by omega))
    replace hown:=VP hown hg (by omega)
    clear hg c2 f2
    generalize wh.setCell _ _=wr2 at ks2 hb kf hown ⊢
    refine Zw rfl ?_
    have cs:=ks2.cell
    have hbs:=Below.refl wr2.heap.size wr2
    have hsz:gs+1≤wr2.heap.size:=ks2.lt
    go_wp2_with (at_builtin;refine ZJ rfl _ _ rfl zx rfl (hown.alloc _) rfl (Ug _ _ _) (XA [o]) (by omega) (by simp;omega) ?_)
    intro v' wn hown' hgrow hblk
    have hal:=(Below.refl wr2.heap.size wr2).alloc (Nat.le_refl _) (.cells #[.int .u64 (o:Int)] 26)
    have hvb:∀ b,u9.ownBlock=some b→gs+1≤b:=fun b hb=>(hown.lt b hb).1
    replace ks2:=(ks2.below hal ks2.lt).grown hgrow (fun e=>by have:=hvb gs e.symm;omega)
    replace kf:=(kf.below hal kf.lt).grown hgrow (fun e=>by have:=hvb _ e.symm;omega)
    replace hb:=(Za hb hal).trans (ZW hgrow w.heap.size (by have:=hb.size;have:=hal.size;omega) (fun b h=>by have:=hvb b h;omega))
    replace hown:wn.ownsRow (gs+1) 26 1 v' (i+1) (U64 ((List.range (i+1)).map SC)):=VX (b:=[o]) hown' HRS.out
    clear hown' hgrow hblk hal hvb cs hbs hsz
    by_cases hla:i+1=nn
    ·have el:((i:Int) == (nn:Int)-1)=true:=by rw [beq_iff_eq];omega
     have cs:=ks2.cell
     have HP1:=Lib.hid (show ∀ w,Calls Try.prog 53 #[.int .u64 18446744069414584321, .agg #[.int .u64 (o:Int), .int .u64 (sb:Int), .int .u64 (sc:Int)]] w fun e w'=>e= .returned (.agg #[.int .u64 ((PM ⟨o,sb,sc⟩).a:Int), .int .u64 ((PM ⟨o,sb,sc⟩).b:Int), .int .u64 ((PM ⟨o,sb,sc⟩).c:Int)])∧Below w.heap.size w w' from fun w=>HP.out ⟨o,sb,sc⟩ w)
     rw [if_pos (.inr hla)] at HSi
     rw [←HSi.out] at HP1
     obtain ⟨⟨ta,tb,tc⟩,hT⟩:∃ s,s=SF (i+1):=⟨_,rfl⟩
     rw [←hT] at HP1
     have HT:=Lib.hid hT
     clear hT
     go_wp2_with fail
     refine (HP1.out _).mono ?_
     rintro _ w6 ⟨rfl,hb6⟩
     replace ks2:=ks2.below hb6 ks2.lt
     replace kf:=kf.below hb6 kf.lt
     replace hb:=Za hb hb6
     replace hown:=Yp hown hb6 (Nat.le_refl _)
     clear cs hb6
     have cs:=ks2.cell
     have fs:=ks2.frozen
     have hg3:=Zr (w:=w6) (g:=gs) (.int .u64 (ta:Int)) (.int .u64 (tb:Int)) (.int .u64 (tc:Int))
     have k9:=ZG ks2 (.int .u64 (ta:Int)) (.int .u64 (tb:Int)) (.int .u64 (tc:Int))
     have kf9:=kf.grown hg3 (fun e=>by have:=Option.some.inj e;omega)
     have hb9:=hb.trans (Ze hg3 hb.size (by omega))
     have hown9:=VP hown hg3 (by omega)
     clear hg3 kf hb hown ks2
     go_wp2
     go_roundw
     case rel=>exact ⟨i+1,by have:=HLI.out;omega,by go_num,by rw [←HT.out];exact k9,kf9,hown9,hb9⟩
     case measure=>have:=HLI.out;simp [intOf];omega
    ·have el:((i:Int) == (nn:Int)-1)=false:=by rw [beq_eq_false_iff_ne];omega
     rw [if_neg (fun e=>by rcases e with e | e;exact absurd e (by decide);exact hla e)] at HSi
     have HSi2:=Lib.hid HSi.out
     clear hla
     go_wp2
     go_roundw
     case rel=>exact ⟨i+1,by have:=HLI.out;omega,by go_num,by rw [HSi2.out];exact ks2,kf,hown,hb⟩
     case measure=>have:=HLI.out;simp [intOf];omega
   ·rw [hm] at HSi HCi
    have em:(i:Int).tmod 2=1:=by rw [Int.tmod_eq_emod_of_nonneg (by omega)];omega
    obtain ⟨o,ho⟩:∃ o,o=SC i:=⟨_,rfl⟩
    have ho2:(sb+x)%Zg=o:=by rw [ho,HCi.out];rfl
    have HA1:=Lib.hid (show ∀ w,Calls Try.prog 52 #[.agg #[.int .u64 18446744069414584321], .int .u64 (sb:Int), .int .u64 (x:Int)] w fun e w'=>e= .returned (.int .u64 (o:Int))∧Below w.heap.size w w' from fun w=>by rw [←ho2];exact HA.out sb x w)
    have HADD:=Lib.hid (show U9 Zg ⟨sa,sb,sc⟩ 1 x=⟨sa,o,sc⟩ by rw [←ho2];rfl)
    rw [HADD.out,HNX.out i,hm] at HSi
    have HRS:=Lib.hid (show (List.range i).map SC++[o]=(List.range (i+1)).map SC by rw [ho];exact Vo SC i)
    have HM:=Lib.hid hm
    have cs:=ks2.cell
    have ls:=ks2.lt
    have cf:=kf.cell
    have lf:=kf.lt
    clear hm ho ho2 hlt HCi
    go_wp2_with fail
    refine Zp (ZQ) (later_moves) [10] [10] [0,1,2,3,4,5,6,7,8,9,10] (by kernel_rfl) (by kernel_rfl) ?_
    refine Zo (later_moves) ?_
    intro Wc hacc
    repeat (first | (refine Zf (later_moves) rfl rfl rfl rfl (fun _ _ _ h=>h) ?_;simp only [Act.put,zLa,zLb,zLc]) | (refine Zd (v:=?_) (later_moves) rfl rfl rfl rfl (fun _ _ _ h=>h) ?_ ?_;rotate_left;(· (intro w' hR;(first | have hcells:=Zc ((later_moves).trans _ _ _ hacc hR) | skip);go_simp;try with_reducible rfl));simp only [Act.put,zLa,zLb,zLc]) | (refine Zi (v:=?_) rfl rfl rfl rfl (fun _ _ _ h=>h) ?_ ?_;rotate_left;(· (intro w';go_simp;try with_reducible rfl));simp only [Act.put,zLa,zLb,zLc]))
    refine Zk (later_moves) rfl rfl rfl rfl (fun _ _ _ h=>h) (fun _=>by go_simp <;> rfl) (fun w' hR=>HA1.out _) ?_
    simp only [Act.put,zLa,zLb,zLc]
    repeat (first | (refine Zf (later_moves) rfl rfl rfl rfl (fun _ _ _ h=>h) ?_;simp only [Act.put,zLa,zLb,zLc]) | (refine Zd (v:=?_) (later_moves) rfl rfl rfl rfl (fun _ _ _ h=>h) ?_ ?_;rotate_left;(· (intro w' hR;(first | have hcells:=Zc ((later_moves).trans _ _ _ hacc hR) | skip);go_simp;try with_reducible rfl));simp only [Act.put,zLa,zLb,zLc]) | (refine Zi (v:=?_) rfl rfl rfl rfl (fun _ _ _ h=>h) ?_ ?_;rotate_left;(· (intro w';go_simp;try with_reducible rfl));simp only [Act.put,zLa,zLb,zLc]))
    refine Zt rfl rfl rfl rfl ?_
    intro wh hRh
    replace hacc:=(later_moves).trans _ _ _ hacc hRh
    replace ks2:=ks2.drew.below hacc ks2.lt
    replace kf:=kf.drew.below hacc kf.lt
    replace hb:=Za hb.drew hacc
    replace hown:=Yp (ZE (u:=wr.drew) hown fun _ _=>rfl) hacc (Nat.le_refl _)
    clear cs cf lf ls hacc hRh hc
    have c2:=ks2.cell
    have f2:=ks2.frozen
    go_simp
    refine ⟨fun h=>Bool.noConfusion h,?_⟩
    have hg:wh.grownBy (wh.setCell ⟨gs,1,none⟩ (.int .u64 (o:Int))) (some gs):=Zj (p:=⟨gs,1,none⟩) (Zl wh _) (.inl rfl) _
    replace ks2:=ks2.set_ 1 (.int .u64 (o:Int))
    simp at ks2
    replace kf:=kf.grown hg (fun e=>by have:=Option.some.inj e;omega)
    replace hb:=hb.trans (Ze hg hb.size (by omega))
    replace hown:=VP hown hg (by omega)
    clear hg c2 f2
    generalize wh.setCell _ _=wr2 at ks2 hb kf hown ⊢
    refine Zw rfl ?_
    have cs:=ks2.cell
    have hbs:=Below.refl wr2.heap.size wr2
    have hsz:gs+1≤wr2.heap.size:=ks2.lt
    go_wp2_with (at_builtin;refine ZJ rfl _ _ rfl zx rfl (hown.alloc _) rfl (Ug _ _ _) (XA [o]) (by omega) (by simp;omega) ?_)
    intro v' wn hown' hgrow hblk
    have hal:=(Below.refl wr2.heap.size wr2).alloc (Nat.le_refl _) (.cells #[.int .u64 (o:Int)] 26)
    have hvb:∀ b,u9.ownBlock=some b→gs+1≤b:=fun b hb=>(hown.lt b hb).1
    replace ks2:=(ks2.below hal ks2.lt).grown hgrow (fun e=>by have:=hvb gs e.symm;omega)
    replace kf:=(kf.below hal kf.lt).grown hgrow (fun e=>by have:=hvb _ e.symm;omega)
    replace hb:=(Za hb hal).trans (ZW hgrow w.heap.size (by have:=hb.size;have:=hal.size;omega) (fun b h=>by have:=hvb b h;omega))
    replace hown:wn.ownsRow (gs+1) 26 1 v' (i+1) (U64 ((List.range (i+1)).map SC)):=VX (b:=[o]) hown' HRS.out
    clear hown' hgrow hblk hal hvb cs hbs hsz
    have cs:=ks2.cell
    have HP1:=Lib.hid (show ∀ w,Calls Try.prog 53 #[.int .u64 18446744069414584321, .agg #[.int .u64 (sa:Int), .int .u64 (o:Int), .int .u64 (sc:Int)]] w fun e w'=>e= .returned (.agg #[.int .u64 ((PM ⟨sa,o,sc⟩).a:Int), .int .u64 ((PM ⟨sa,o,sc⟩).b:Int), .int .u64 ((PM ⟨sa,o,sc⟩).c:Int)])∧Below w.heap.size w w' from fun w=>HP.out ⟨sa,o,sc⟩ w)
    rw [if_pos (.inl (by first | trivial | rfl))] at HSi
    rw [←HSi.out] at HP1
    obtain ⟨⟨ta,tb,tc⟩,hT⟩:∃ s,s=SF (i+1):=⟨_,rfl⟩
    rw [←hT] at HP1
    have HT:=Lib.hid hT
    clear hT
    go_wp2_with fail
    refine (HP1.out _).mono ?_
    rintro _ w6 ⟨rfl,hb6⟩
    replace ks2:=ks2.below hb6 ks2.lt
    replace kf:=kf.below hb6 kf.lt
    replace hb:=Za hb hb6
    replace hown:=Yp hown hb6 (Nat.le_refl _)
    clear cs hb6
    have cs:=ks2.cell
    have fs:=ks2.frozen
    have hg3:=Zr (w:=w6) (g:=gs) (.int .u64 (ta:Int)) (.int .u64 (tb:Int)) (.int .u64 (tc:Int))
    have k9:=ZG ks2 (.int .u64 (ta:Int)) (.int .u64 (tb:Int)) (.int .u64 (tc:Int))
    have kf9:=kf.grown hg3 (fun e=>by have:=Option.some.inj e;omega)
    have hb9:=hb.trans (Ze hg3 hb.size (by omega))
    have hown9:=VP hown hg3 (by omega)
    clear hg3 kf hb hown ks2
    go_wp2
    go_roundw
    case rel=>exact ⟨i+1,by have:=HLI.out;omega,by go_num,by rw [←HT.out];exact k9,kf9,hown9,hb9⟩
    case measure=>have:=HLI.out;simp [intOf];omega
  ·have e3:nn=i:=by omega
   subst e3
   have ks2:Blk wr gs 80 #[.int .u64 ((SF nn).a:Int), .int .u64 ((SF nn).b:Int), .int .u64 ((SF nn).c:Int)]:=ks
   obtain ⟨o,ho⟩:∃ o,o=(SF nn).a:=⟨_,rfl⟩
   rw [←ho] at ks2 HSL
   have cs:=ks2.cell
   have hsz:gs+1≤wr.heap.size:=ks2.lt
   have HRS:=Lib.hid HSL.out.symm
   clear hlt hi ks ho
   go_wp2_with (at_builtin;refine ZJ rfl _ _ rfl zx rfl (hown.alloc _) rfl (Ug _ _ _) (XA [o]) (by omega) (by simp;omega) ?_)
   intro v' wn hown' hgrow hblk
   have hal:=(Below.refl wr.heap.size wr).alloc (Nat.le_refl _) (.cells #[.int .u64 (o:Int)] 26)
   have hvb:∀ b,u9.ownBlock=some b→gs+1≤b:=fun b hb=>(hown.lt b hb).1
   have hb9:=(Za hb hal).trans (ZW hgrow w.heap.size (by have:=hb.size;have:=hal.size;omega) (fun b h=>by have:=hvb b h;omega))
   have hown9:wn.ownsRow w.heap.size 26 1 v' n1 (U64 sl):=by rw [HN1.out];exact UQ (VX (b:=[o]) hown' HRS.out) (by omega)
   clear hown hown' hgrow hblk hal hvb cs hb
   go_wp2
   go_ret
   exact ⟨_,rfl,hown9,hb9⟩
set_option maxRecDepth 100000 in
set_option maxHeartbeats 2000000 in
theorem Kp (key nonce:Nat) (A:Option Addr) (n c:Nat) (l:List Nat) (w:World) (hl:RWd w [.slice A n c] l) (hlen:l.length≤100000) :
  Calls Try.prog 50 #[.int .u64 (key:Int), .int .u64 (nonce:Int), .slice A n c] w fun e w'=>∃ gp,e= .returned (.tuple #[.slice (some ⟨gp,0,none⟩) n n, .int .u64 (GF Zg key nonce l:Int)])∧Blk w' gp 26 (ZD n (XM Zg l (ZR Zg key nonce l.length)))∧w.heap.size≤gp∧Below w.heap.size w w':=by
 obtain ⟨rfl,h1,h2,hlt,hrd⟩:=ZO hl
 have HRD:=Lib.hid hrd
 have HST:=Lib.hid (fun w=>Jy key nonce l.length w (by omega))
 obtain ⟨s0,hs0⟩:∃ s0,s0=ZR Zg key nonce l.length:=⟨_,rfl⟩
 obtain ⟨tg,htg⟩:∃ tg,tg=GF Zg key nonce l:=⟨_,rfl⟩
 have HTG0:=Lib.hid (show tg=(Jl Zg l s0 l.length).a by rw [htg,hs0];rfl)
 rw [←htg]
 rw [←hs0] at HST ⊢
 have HA:=Lib.hid (fun a b w=>yi Zg a b w Ve)
 have HP:=Lib.hid (fun s w=>YR Zg s w Ve)
 obtain ⟨SF,hSF⟩:∃ SF:Nat→St,SF=fun i=>Jl Zg l s0 i:=⟨_,rfl⟩
 have HTG:=Lib.hid (show tg=(SF l.length).a by rw [HTG0.out,hSF])
 have HSF0:=Lib.hid (show SF 0=s0 by rw [hSF];rfl)
 have HSF:=Lib.hid (fun i=>show SF (i+1)=Uk Zg l.length i (Jr (SF i) (i%2) (l.getD i 0)) by rw [hSF];rfl)
 obtain ⟨SC,hSC⟩:∃ SC:Nat→Nat,SC=XM Zg l s0:=⟨_,rfl⟩
 have HSC:=Lib.hid (fun i=>show SC i=(l.getD i 0+Uc Zg (atK (SF i) (i%2)))%Zg by rw [hSC,hSF];rfl)
 rw [←hSC]
 obtain ⟨PM,hPM⟩:∃ PM:St→St,PM=Yq Zg:=⟨_,rfl⟩
 have HP:=Lib.hid (show ∀ (s:St) w,Calls Try.prog 53 #[.int .u64 18446744069414584321,s.val] w fun e w'=>e= .returned (PM s).val∧Below w.heap.size w w' from fun s w=>by rw [hPM];exact HP.out s w)
 have HNX:=Lib.hid (fun i s=>show Uk Zg l.length i s=if i%2=1∨i+1=l.length then PM s else s by rw [hPM];rfl)
 have hba:=(Below.refl w.heap.size w).alloc (Nat.le_refl _) (.cells #[.int .u64 18446744069414584321] 96)
 have kf:=Blk.new w 96 #[.int .u64 18446744069414584321]
 obtain ⟨nn,hnn⟩:∃ nn,nn=l.length:=⟨_,rfl⟩
 have HNN:=Lib.hid hnn
 rw [←hnn] at HST HTG HNX HSF hlen h1 ⊢
 have hmk:=fun w=>U5 nn (by omega) w
 obtain ⟨zc,hzc⟩:∃ zc,zc=ZD nn fun _=>0:=⟨_,rfl⟩
 rw [←hzc] at hmk
 have HZC:=Lib.hid hzc
 have HLT:=Lib.hid hlt
 have ev0:s0.val= .agg #[.int .u64 (s0.a:Int), .int .u64 (s0.b:Int), .int .u64 (s0.c:Int)]:=rfl
 unfold fv Zg at HA
 clear hl hs0 htg HTG0 hSF hSC hPM hlt hrd hnn h1 h2 hzc
 go_enter Try.func50,Try.ntmps50
 go_upto_region 2 with fail
 generalize w.alloc _=w1 at hba kf ⊢
 go_wp2_with fail
 refine (HST.out _).mono ?_
 rintro _ w2 ⟨rfl,hb2⟩
 rw [ev0]
 have kf2:=kf.below hb2 kf.lt
 have hb3:=Za hba hb2
 clear kf hba hb2
 go_upto_region 3 with fail
 have hal:=(Below.refl w2.heap.size w2).alloc (Nat.le_refl _) (.cells #[.int .u64 (s0.a:Int), .int .u64 (s0.b:Int), .int .u64 (s0.c:Int)] 80)
 have ks:Blk (w2.alloc (.cells #[.int .u64 (s0.a:Int), .int .u64 (s0.b:Int), .int .u64 (s0.c:Int)] 80)) w2.heap.size 80 s0.cs:=Blk.new w2 80 #[.int .u64 (s0.a:Int), .int .u64 (s0.b:Int), .int .u64 (s0.c:Int)]
 have lfs:w.heap.size<w2.heap.size:=kf2.lt
 replace kf2:=kf2.below hal kf2.lt
 replace hb3:=Za hb3 hal
 generalize w2.alloc _=w3 at ks kf2 hb3 ⊢
 generalize w2.heap.size=gs at ks lfs ⊢
 have kp:=Blk.new w3 26 zc
 have lsp:gs<w3.heap.size:=ks.lt
 have hal2:=(Below.refl w3.heap.size w3).alloc (Nat.le_refl _) (.cells zc 26)
 replace ks:=ks.below hal2 ks.lt
 replace kf2:=kf2.below hal2 kf2.lt
 replace hb3:=Za hb3 hal2
 clear hal hal2
 go_wp2_with fail
 generalize w3.alloc _=w4 at kp ks kf2 hb3 ⊢
 generalize w3.heap.size=gp at kp lsp ⊢
 clear hmk
 rw [HZC.out,show ZD nn (fun _=>0)=ZD nn (fun k=>if k<0 then SC k else 0) from Xg fun i _=>by rw [if_neg (by omega)]] at kp
 go_loopw [24] (fun y wr=>∃ i:Nat,i≤nn∧y= .int .i64 (i:Int)∧Blk wr gs 80 (SF i).cs∧Blk wr w.heap.size 96 #[.int .u64 18446744069414584321]∧Blk wr gp 26 (ZD nn fun k=>if k<i then SC k else 0)∧Below w.heap.size w wr) (fun y _=>nn-(intOf y).toNat)
 case atStart=>exact ⟨0,Nat.zero_le _,rfl,by rw [HSF0.out];exact ks,kf2,kp,hb3⟩
 case round =>
  clear ks kf2 kp hb3
  obtain ⟨i,hi,rfl,ks,kf,kp,hb⟩:=hrel
  by_cases hlt:i<nn
  ·obtain ⟨b,q,rfl,hbl,hc⟩:=ZN (HRD.out.below hb) (show i<l.length by rw [←HNN.out];exact hlt)
   have g1:(0:Int)≤(i:Int):=by omega
   have g2:(i:Int)<(nn:Int):=by omega
   obtain ⟨⟨sa,sb,sc⟩,hS⟩:∃ s,s=SF i:=⟨_,rfl⟩
   have HSi:=Lib.hid (HSF.out i)
   have HCi:=Lib.hid (HSC.out i)
   rw [←hS] at ks HSi HCi
   have ks2:Blk wr gs 80 #[.int .u64 (sa:Int), .int .u64 (sb:Int), .int .u64 (sc:Int)]:=ks
   generalize l.getD i 0=x at *
   have HLI:=Lib.hid hlt
   have e2:IntKind.i64.wrap ((nn:Int)-1)=(nn:Int)-1:=by rw [IntKind.wrap_i64];omega
   have hsp:gs≠gp:=by omega
   clear hS ks
   rcases Nat.mod_two_eq_zero_or_one i with hm | hm
   ·rw [hm] at HSi HCi
    have em:(i:Int).tmod 2=0:=by rw [Int.tmod_eq_emod_of_nonneg (by omega)];omega
    obtain ⟨o,ho⟩:∃ o,o=SC i:=⟨_,rfl⟩
    have ho2:(x+Uc Zg sa)%Zg=o:=by rw [ho,HCi.out];rfl
    have HA1:=Lib.hid (show ∀ w,Calls Try.prog 72 #[.agg #[.int .u64 18446744069414584321], .int .u64 (x:Int), .int .u64 (sa:Int)] w fun e w'=>e= .returned (.int .u64 (o:Int))∧Below w.heap.size w w' from fun w=>by rw [←ho2];exact HA.out x sa w)
    have HPUT:=Lib.hid (show Jr ⟨sa,sb,sc⟩ 0 x=⟨x,sb,sc⟩ from rfl)
    rw [HPUT.out,HNX.out i,hm] at HSi
    have HO:=Lib.hid ho
    have cs:=ks2.cell
    have ls:=ks2.lt
    have cf:=kf.cell
    have lf:=kf.lt
    have hgp:=kp.lt
    clear hm ho ho2 hlt HCi
    go_wp2_with fail
    refine Zp (ZQ) (later_moves) [10] [10] [0,1,2,3,4,5,6,7,8,9,10] (by kernel_rfl) (by kernel_rfl) ?_
    refine Zo (later_moves) ?_
    intro Wc hacc
    repeat (first | (refine Zf (later_moves) rfl rfl rfl rfl (fun _ _ _ h=>h) ?_;simp only [Act.put,zLa,zLb,zLc]) | (refine Zd (v:=?_) (later_moves) rfl rfl rfl rfl (fun _ _ _ h=>h) ?_ ?_;rotate_left;(· (intro w' hR;(first | have hcells:=Zc ((later_moves).trans _ _ _ hacc hR) | skip);go_simp;try with_reducible rfl));simp only [Act.put,zLa,zLb,zLc]) | (refine Zi (v:=?_) rfl rfl rfl rfl (fun _ _ _ h=>h) ?_ ?_;rotate_left;(· (intro w';go_simp;try with_reducible rfl));simp only [Act.put,zLa,zLb,zLc]))
    refine Zk (later_moves) rfl rfl rfl rfl (fun _ _ _ h=>h) (fun _=>by go_simp <;> rfl) (fun w' hR=>HA1.out _) ?_
    simp only [Act.put,zLa,zLb,zLc]
    repeat (first | (refine Zf (later_moves) rfl rfl rfl rfl (fun _ _ _ h=>h) ?_;simp only [Act.put,zLa,zLb,zLc]) | (refine Zd (v:=?_) (later_moves) rfl rfl rfl rfl (fun _ _ _ h=>h) ?_ ?_;rotate_left;(· (intro w' hR;(first | have hcells:=Zc ((later_moves).trans _ _ _ hacc hR) | skip);go_simp;try with_reducible rfl));simp only [Act.put,zLa,zLb,zLc]) | (refine Zi (v:=?_) rfl rfl rfl rfl (fun _ _ _ h=>h) ?_ ?_;rotate_left;(· (intro w';go_simp;try with_reducible rfl));simp only [Act.put,zLa,zLb,zLc]))
    refine Zt rfl rfl rfl rfl ?_
    intro wh hRh
    replace hacc:=(later_moves).trans _ _ _ hacc hRh
    replace ks2:=ks2.drew.below hacc ks2.lt
    replace kf:=kf.drew.below hacc kf.lt
    replace kp:=kp.drew.below hacc kp.lt
    replace hb:=Za hb.drew hacc
    clear cs cf lf ls hacc hRh hc
    have c2:wh.cell? ⟨gp,i,none⟩=some (.int .u64 0):=(kp.cell i).trans ((VR _ HLI.out).trans (by simp))
    have f2:=kp.frozen
    go_simp
    refine ⟨fun h=>Bool.noConfusion h,?_⟩
    have hg:wh.grownBy (wh.setCell ⟨gp,i,none⟩ (.int .u64 (o:Int))) (some gp):=Zj (p:=⟨gp,i,none⟩) (Zl wh _) (.inl rfl) _
    replace kp:=kp.set_ i (.int .u64 (o:Int))
    rw [VW,HO.out,UA] at kp
    rw [HO.out] at hg ⊢
    replace kf:=kf.grown hg (fun e=>by have:=Option.some.inj e;omega)
    replace ks2:=ks2.grown hg (fun e=>by have:=Option.some.inj e;omega)
    replace hb:=hb.trans (Ze hg hb.size (by omega))
    clear hg c2 f2
    generalize wh.setCell _ _=wr2 at ks2 hb kf kp ⊢
    refine Zw rfl ?_
    have cs:=ks2.cell
    have fs:=ks2.frozen
    have hg:wr2.grownBy (wr2.setCell ⟨gs,0,none⟩ (.int .u64 (x:Int))) (some gs):=Zj (p:=⟨gs,0,none⟩) (Zl wr2 _) (.inl rfl) _
    have ks3:=ks2.set_ 0 (.int .u64 (x:Int))
    simp at ks3
    replace kf:=kf.grown hg (fun e=>by have:=Option.some.inj e;omega)
    replace kp:=kp.grown hg (fun e=>by have:=Option.some.inj e;omega)
    replace hb:=hb.trans (Ze hg hb.size (by omega))
    go_upto_region 9 with fail
    generalize wr2.setCell _ _=wr3 at ks3 hb kf kp ⊢
    clear hg cs fs ks2
    have ks2:=ks3
    clear ks3
    by_cases hla:i+1=nn
    ·have el:((i:Int) == (nn:Int)-1)=true:=by rw [beq_iff_eq];omega
     have cs:=ks2.cell
     have HP1:=Lib.hid (show ∀ w,Calls Try.prog 53 #[.int .u64 18446744069414584321, .agg #[.int .u64 (x:Int), .int .u64 (sb:Int), .int .u64 (sc:Int)]] w fun e w'=>e= .returned (.agg #[.int .u64 ((PM ⟨x,sb,sc⟩).a:Int), .int .u64 ((PM ⟨x,sb,sc⟩).b:Int), .int .u64 ((PM ⟨x,sb,sc⟩).c:Int)])∧Below w.heap.size w w' from fun w=>HP.out ⟨x,sb,sc⟩ w)
     rw [if_pos (.inr hla)] at HSi
     rw [←HSi.out] at HP1
     obtain ⟨⟨ta,tb,tc⟩,hT⟩:∃ s,s=SF (i+1):=⟨_,rfl⟩
     rw [←hT] at HP1
     have HT:=Lib.hid hT
     clear hT
     go_wp2_with fail
     refine (HP1.out _).mono ?_
     rintro _ w6 ⟨rfl,hb6⟩
     replace ks2:=ks2.below hb6 ks2.lt
     replace kf:=kf.below hb6 kf.lt
     replace kp:=kp.below hb6 kp.lt
     replace hb:=Za hb hb6
     clear cs hb6
     have cs:=ks2.cell
     have fs:=ks2.frozen
     have hg3:=Zr (w:=w6) (g:=gs) (.int .u64 (ta:Int)) (.int .u64 (tb:Int)) (.int .u64 (tc:Int))
     have k9:=ZG ks2 (.int .u64 (ta:Int)) (.int .u64 (tb:Int)) (.int .u64 (tc:Int))
     have kf9:=kf.grown hg3 (fun e=>by have:=Option.some.inj e;omega)
     have kp9:=kp.grown hg3 (fun e=>by have:=Option.some.inj e;omega)
     have hb9:=hb.trans (Ze hg3 hb.size (by omega))
     clear hg3 kf hb kp ks2
     go_wp2
     go_roundw
     case rel=>exact ⟨i+1,by have:=HLI.out;omega,by go_num,by rw [←HT.out];exact k9,kf9,kp9,hb9⟩
     case measure=>have:=HLI.out;simp [intOf];omega
    ·have el:((i:Int) == (nn:Int)-1)=false:=by rw [beq_eq_false_iff_ne];omega
     rw [if_neg (fun e=>by rcases e with e | e;exact absurd e (by decide);exact hla e)] at HSi
     have HSi2:=Lib.hid HSi.out
     clear hla
     go_wp2
     go_roundw
     case rel=>exact ⟨i+1,by have:=HLI.out;omega,by go_num,by rw [HSi2.out];exact ks2,kf,kp,hb⟩
     case measure=>have:=HLI.out;simp [intOf];omega
   ·rw [hm] at HSi HCi
    have em:(i:Int).tmod 2=1:=by rw [Int.tmod_eq_emod_of_nonneg (by omega)];omega
    obtain ⟨o,ho⟩:∃ o,o=SC i:=⟨_,rfl⟩
    have ho2:(x+Uc Zg sb)%Zg=o:=by rw [ho,HCi.out];rfl
    have HA1:=Lib.hid (show ∀ w,Calls Try.prog 72 #[.agg #[.int .u64 18446744069414584321], .int .u64 (x:Int), .int .u64 (sb:Int)] w fun e w'=>e= .returned (.int .u64 (o:Int))∧Below w.heap.size w w' from fun w=>by rw [←ho2];exact HA.out x sb w)
    have HPUT:=Lib.hid (show Jr ⟨sa,sb,sc⟩ 1 x=⟨sa,x,sc⟩ from rfl)
    rw [HPUT.out,HNX.out i,hm] at HSi
    have HO:=Lib.hid ho
    have cs:=ks2.cell
    have ls:=ks2.lt
    have cf:=kf.cell
    have lf:=kf.lt
    have hgp:=kp.lt
    clear hm ho ho2 hlt HCi
    go_wp2_with fail
    refine Zp (ZQ) (later_moves) [10] [10] [0,1,2,3,4,5,6,7,8,9,10] (by kernel_rfl) (by kernel_rfl) ?_
    refine Zo (later_moves) ?_
    intro Wc hacc
    repeat (first | (refine Zf (later_moves) rfl rfl rfl rfl (fun _ _ _ h=>h) ?_;simp only [Act.put,zLa,zLb,zLc]) | (refine Zd (v:=?_) (later_moves) rfl rfl rfl rfl (fun _ _ _ h=>h) ?_ ?_;rotate_left;(· (intro w' hR;(first | have hcells:=Zc ((later_moves).trans _ _ _ hacc hR) | skip);go_simp;try with_reducible rfl));simp only [Act.put,zLa,zLb,zLc]) | (refine Zi (v:=?_) rfl rfl rfl rfl (fun _ _ _ h=>h) ?_ ?_;rotate_left;(· (intro w';go_simp;try with_reducible rfl));simp only [Act.put,zLa,zLb,zLc]))
    refine Zk (later_moves) rfl rfl rfl rfl (fun _ _ _ h=>h) (fun _=>by go_simp <;> rfl) (fun w' hR=>HA1.out _) ?_
    simp only [Act.put,zLa,zLb,zLc]
    repeat (first | (refine Zf (later_moves) rfl rfl rfl rfl (fun _ _ _ h=>h) ?_;simp only [Act.put,zLa,zLb,zLc]) | (refine Zd (v:=?_) (later_moves) rfl rfl rfl rfl (fun _ _ _ h=>h) ?_ ?_;rotate_left;(· (intro w' hR;(first | have hcells:=Zc ((later_moves).trans _ _ _ hacc hR) | skip);go_simp;try with_reducible rfl));simp only [Act.put,zLa,zLb,zLc]) | (refine Zi (v:=?_) rfl rfl rfl rfl (fun _ _ _ h=>h) ?_ ?_;rotate_left;(· (intro w';go_simp;try with_reducible rfl));simp only [Act.put,zLa,zLb,zLc]))
    refine Zt rfl rfl rfl rfl ?_
    intro wh hRh
    replace hacc:=(later_moves).trans _ _ _ hacc hRh
    replace ks2:=ks2.drew.below hacc ks2.lt
    replace kf:=kf.drew.below hacc kf.lt
    replace kp:=kp.drew.below hacc kp.lt
    replace hb:=Za hb.drew hacc
    clear cs cf lf ls hacc hRh hc
    have c2:wh.cell? ⟨gp,i,none⟩=some (.int .u64 0):=(kp.cell i).trans ((VR _ HLI.out).trans (by simp))
    have f2:=kp.frozen
    go_simp
    refine ⟨fun h=>Bool.noConfusion h,?_⟩
    have hg:wh.grownBy (wh.setCell ⟨gp,i,none⟩ (.int .u64 (o:Int))) (some gp):=Zj (p:=⟨gp,i,none⟩) (Zl wh _) (.inl rfl) _
    replace kp:=kp.set_ i (.int .u64 (o:Int))
    rw [VW,HO.out,UA] at kp
    rw [HO.out] at hg ⊢
    replace kf:=kf.grown hg (fun e=>by have:=Option.some.inj e;omega)
    replace ks2:=ks2.grown hg (fun e=>by have:=Option.some.inj e;omega)
    replace hb:=hb.trans (Ze hg hb.size (by omega))
    clear hg c2 f2
    generalize wh.setCell _ _=wr2 at ks2 hb kf kp ⊢
    refine Zw rfl ?_
    have cs:=ks2.cell
    have fs:=ks2.frozen
    have hg:wr2.grownBy (wr2.setCell ⟨gs,1,none⟩ (.int .u64 (x:Int))) (some gs):=Zj (p:=⟨gs,1,none⟩) (Zl wr2 _) (.inl rfl) _
    have ks3:=ks2.set_ 1 (.int .u64 (x:Int))
    simp at ks3
    replace kf:=kf.grown hg (fun e=>by have:=Option.some.inj e;omega)
    replace kp:=kp.grown hg (fun e=>by have:=Option.some.inj e;omega)
    replace hb:=hb.trans (Ze hg hb.size (by omega))
    go_upto_region 9 with fail
    generalize wr2.setCell _ _=wr3 at ks3 hb kf kp ⊢
    clear hg cs fs ks2
    have ks2:=ks3
    clear ks3
    have cs:=ks2.cell
    have HP1:=Lib.hid (show ∀ w,Calls Try.prog 53 #[.int .u64 18446744069414584321, .agg #[.int .u64 (sa:Int), .int .u64 (x:Int), .int .u64 (sc:Int)]] w fun e w'=>e= .returned (.agg #[.int .u64 ((PM ⟨sa,x,sc⟩).a:Int), .int .u64 ((PM ⟨sa,x,sc⟩).b:Int), .int .u64 ((PM ⟨sa,x,sc⟩).c:Int)])∧Below w.heap.size w w' from fun w=>HP.out ⟨sa,x,sc⟩ w)
    rw [if_pos (.inl (by first | trivial | rfl))] at HSi
    rw [←HSi.out] at HP1
    obtain ⟨⟨ta,tb,tc⟩,hT⟩:∃ s,s=SF (i+1):=⟨_,rfl⟩
    rw [←hT] at HP1
    have HT:=Lib.hid hT
    clear hT
    go_wp2_with fail
    refine (HP1.out _).mono ?_
    rintro _ w6 ⟨rfl,hb6⟩
    replace ks2:=ks2.below hb6 ks2.lt
    replace kf:=kf.below hb6 kf.lt
    replace kp:=kp.below hb6 kp.lt
    replace hb:=Za hb hb6
    clear cs hb6
    have cs:=ks2.cell
    have fs:=ks2.frozen
    have hg3:=Zr (w:=w6) (g:=gs) (.int .u64 (ta:Int)) (.int .u64 (tb:Int)) (.int .u64 (tc:Int))
    have k9:=ZG ks2 (.int .u64 (ta:Int)) (.int .u64 (tb:Int)) (.int .u64 (tc:Int))
    have kf9:=kf.grown hg3 (fun e=>by have:=Option.some.inj e;omega)
    have kp9:=kp.grown hg3 (fun e=>by have:=Option.some.inj e;omega)
    have hb9:=hb.trans (Ze hg3 hb.size (by omega))
    clear hg3 kf hb kp ks2
    go_wp2
    go_roundw
    case rel=>exact ⟨i+1,by have:=HLI.out;omega,by go_num,by rw [←HT.out];exact k9,kf9,kp9,hb9⟩
    case measure=>have:=HLI.out;simp [intOf];omega
  ·have e3:nn=i:=by omega
   subst e3
   have ks2:Blk wr gs 80 #[.int .u64 ((SF nn).a:Int), .int .u64 ((SF nn).b:Int), .int .u64 ((SF nn).c:Int)]:=ks
   rw [←HTG.out] at ks2
   rw [show ZD nn (fun k=>if k<nn then SC k else 0)=ZD nn SC from Xg fun i hi=>by rw [if_pos hi]] at kp
   have cs:=ks2.cell
   have ls:=ks2.lt
   have KP:=Lib.hid kp
   have hpl:w.heap.size≤gp:=by omega
   clear hlt hi ks kp
   go_wp2_with fail
   refine Z7 (ZQ) [] [0,1,2,3,4] (by kernel_rfl) (by kernel_rfl) ?_
   refine Z4 (later_moves) ?_
   intro Wc HWc hacc
   have KP2:=Lib.hid (KP.out.drew)
   have hb2:Below w.heap.size w Wc:=by rw [HWc.out];exact hb.drew
   rw [←HWc.out] at KP2
   clear HWc
   repeat (first | (refine ZK (later_moves) rfl rfl (fun _ _ _ h=>h) ?_;simp only [Act.put,zLa,zLb,zLc]) | (refine Zy (v:=?_) (later_moves) rfl rfl (fun _ _ _ h=>h) ?_ ?_;rotate_left;(· (intro w' hR;(first | have hcells:=Zc ((later_moves).trans _ _ _ hacc hR) | skip);go_simp;try with_reducible rfl));simp only [Act.put,zLa,zLb,zLc]))
   refine Yd ?_
   go_wp2
   go_ret2
   exact ⟨gp,rfl,KP2.out,hpl,hb2⟩
set_option maxRecDepth 100000 in
set_option maxHeartbeats 1000000 in
theorem zP (key nonce m:Nat) (A:Option Addr) (n c:Nat) (l:List Nat) (w:World) (hl:RWd w [.slice A n c] l) (hm:l.length=m+1) (hk:key<Zg) (hno:nonce<Zg) (he:ZB l=true) (hlen:l.length≤100000) (ht:GF Zg key nonce (l.take m)=l.getD m 0) :
  Calls Try.prog 35 #[.int .u64 (key:Int), .int .u64 (nonce:Int), .slice A n c] w fun e w'=>∃ gp,e= .returned (.tuple #[.slice (some ⟨gp,0,none⟩) m m, .bool true])∧Blk w' gp 26 (ZD m (XM Zg (l.take m) (ZR Zg key nonce m)))∧w.heap.size≤gp∧Below w.heap.size w w':=by
 have HEL:=Lib.hid (Vh key nonce A n c l w hl hk hno he)
 obtain ⟨rfl,h1,h2,hlt,hrd⟩:=ZO hl
 have hrt:=hrd.take (show m≤l.length by omega)
 rw [Nat.mul_one,show (U64 l).take m=U64 (l.take m) by simp [U64,List.map_take]] at hrt
 have hlm:(l.take m).length=m:=by rw [List.length_take];omega
 have HD:=Lib.hid (show Calls Try.prog 50 #[.int .u64 (key:Int), .int .u64 (nonce:Int), .slice A m c] w fun e w'=>∃ gp,e= .returned (.tuple #[.slice (some ⟨gp,0,none⟩) m m, .int .u64 ((l.getD m 0:Nat):Int)])∧Blk w' gp 26 (ZD m (XM Zg (l.take m) (ZR Zg key nonce m)))∧w.heap.size≤gp∧Below w.heap.size w w' from by
  have:=Kp key nonce A m c (l.take m) w ⟨A,m,c,rfl,by omega,h2,hrt,fun x hx=>hlt x (List.mem_of_mem_take hx)⟩ (by omega)
  rw [ht,hlm] at this
  exact this)
 obtain ⟨b,q,eA,hbl,hc⟩:=ZN hrd (show m<l.length by omega)
 have HF:=Lib.hid (show ZD m (XM Zg (l.take m) (ZR Zg key nonce m))=ZD m (XM Zg (l.take m) (ZR Zg key nonce m)) from rfl)
 generalize XM Zg (l.take m) (ZR Zg key nonce m)=f at *
 generalize l.getD m 0=y at *
 obtain ⟨nn,hnn⟩:∃ nn,nn=l.length:=⟨_,rfl⟩
 rw [←hnn] at HEL hm h1 ⊢
 have z0:((nn:Int) == 0)=false:=by rw [beq_eq_false_iff_ne];omega
 have e1:IntKind.i64.wrap ((nn:Int)-1)=(m:Int):=by rw [IntKind.wrap_i64];omega
 have hcut:∀ w,(Instr.slice 23 (.slice A nn c) none (some (.int .i64 (m:Int))) none).run Try.prog w= .ok (.slice A m c) w:=fun w=>Vm zx A nn c m (by omega)
 have g1:(0:Int)≤(m:Int):=by omega
 have g2:(m:Int)<(nn:Int):=by omega
 have g3:(m:Int)≤(c:Int):=by omega
 have dy:((y:Int) != (y:Int))=false:=by simp
 subst eA
 clear hl hk hno he ht hrd hrt hlm hnn hm h1 h2 hlt
 go_enter Try.func35,Try.ntmps35
 go_wp2_with fail
 refine HEL.out.mono ?_
 rintro _ w1 ⟨rfl,rfl⟩
 go_wp2_with fail
 refine HD.out.mono ?_
 rintro _ w2 ⟨gp,rfl,kp,hgp,hb⟩
 have hc2:=(hb.cell (p:=⟨b,q+m,none⟩) hbl).trans hc
 have KP:=Lib.hid kp
 clear kp hc
 go_wp2_with fail
 go_ret2
 exact ⟨gp,rfl,KP.out,hgp,hb⟩
set_option maxRecDepth 100000 in
set_option maxHeartbeats 400000 in
theorem zQ {w:World} {g:Nat} {O:Orc} {F:Nat→Prop} (h:OrcAt w g O F) (hi:O.ideal=false) (key nonce:Nat) (A:Option Addr) (n c:Nat) (l:List Nat) (hl:RWd w [.slice A n c] l) (hk:key<Zg) (hno:nonce<Zg) (he:ZB l=true) (hlen:l.length≤100000) :
  Calls Try.prog 17 #[.pointer (some ⟨g,0,none⟩), .int .u64 (key:Int), .int .u64 (nonce:Int), .slice A n c] w fun e w'=>∃ v,e= .returned v∧w'.ownsRow w.heap.size 26 1 v (n+1) (U64 (Y2 Zg key nonce l))∧Below w.heap.size w w':=by
 have HS:=Lib.hid (zo key nonce A n c l w hl hk hno he hlen)
 obtain ⟨v,cs,km,sm,pm,E,hin⟩:=h
 have hc:=hin.blk.cell
 rw [hi] at hc
 clear hin hl hk hno he hlen hi
 go_enter Try.func17,Try.ntmps17
 go_wp2_with fail
 refine HS.out.mono ?_
 rintro _ w1 ⟨v1,rfl,ho,hb⟩
 have HOW:=Lib.hid ho
 clear ho
 go_wp2
 go_ret
 exact ⟨_,rfl,HOW.out,hb⟩
set_option maxRecDepth 100000 in
set_option maxHeartbeats 400000 in
theorem zM {w:World} {g:Nat} {O:Orc} {F:Nat→Prop} (h:OrcAt w g O F) (hi:O.ideal=false) (key nonce m:Nat) (A:Option Addr) (n c:Nat) (l:List Nat) (hl:RWd w [.slice A n c] l) (hm:l.length=m+1) (hk:key<Zg) (hno:nonce<Zg) (he:ZB l=true) (hlen:l.length≤100000) (ht:GF Zg key nonce (l.take m)=l.getD m 0) :
  Calls Try.prog 16 #[.pointer (some ⟨g,0,none⟩), .int .u64 (key:Int), .int .u64 (nonce:Int), .slice A n c] w fun e w'=>∃ gp,e= .returned (.tuple #[.slice (some ⟨gp,0,none⟩) m m, .bool true])∧Blk w' gp 26 (ZD m (XM Zg (l.take m) (ZR Zg key nonce m)))∧w.heap.size≤gp∧Below w.heap.size w w':=by
 have HS:=Lib.hid (zP key nonce m A n c l w hl hm hk hno he hlen ht)
 obtain ⟨v,cs,km,sm,pm,E,hin⟩:=h
 have hc:=hin.blk.cell
 rw [hi] at hc
 clear hin hl hk hno he hlen hi hm ht
 go_enter Try.func16,Try.ntmps16
 go_wp2_with fail
 refine HS.out.mono ?_
 rintro _ w1 ⟨gp,rfl,kp,hgp,hb⟩
 have KP:=Lib.hid kp
 clear kp
 go_wp2
 go_ret2
 exact ⟨gp,rfl,KP.out,hgp,hb⟩
theorem Gj {F F':Nat→Prop} {w w':World} (h:Moved F F' w w') {N:Nat} {V0:Nat→Prop} (hN:N≤w.heap.size) (hV:∀ b,b<N→F b→V0 b):∀ b,b<N→F' b→V0 b:=fun b hb hf=>by
 rcases h.foot b hf with e | e
 ·exact hV b hb e
 ·omega
structure VZ (V0:Nat→Prop) (N:Nat) (V:Nat→Prop) (w:World):Prop where
 size:N≤w.heap.size
 lt:∀ b,V b→b<w.heap.size
 old:∀ b,b<N→V b→V0 b
theorem Xw {V0 V V':Nat→Prop} {N:Nat} {w w':World} (h:VZ V0 N V w) (m:Moved V V' w w') (hlt:∀ b,V' b→b<w'.heap.size):VZ V0 N V' w':=⟨Nat.le_trans h.size m.size,hlt,Gj m h.size h.old⟩
theorem ZT {V0 V:Nat→Prop} {N:Nat} {w w':World} (h:VZ V0 N V w) (m:Below w.heap.size w w'):VZ V0 N V w':=⟨Nat.le_trans h.size m.size,fun b hb=>Nat.lt_of_lt_of_le (h.lt b hb) m.size,h.old⟩
theorem US {V:Nat→Prop} {w:World} (hlt:∀ b,V b→b<w.heap.size):VZ V w.heap.size V w:=⟨Nat.le_refl _,hlt,fun _ _ h=>h⟩
theorem YX {V0 V V':Nat→Prop} {N:Nat} {w w':World} (h:VZ V0 N V w) (m:Moved V V' w w'):Yl V0 N w w':=YL m h.size h.old
def wpY (P:Program) (l:List Oper) (hs tail:List Nat) (Q:Exit→Act→World→Prop) (V0:Nat→Prop) (N j:Nat) (t:TypeId) (z:Array Value) (order:List Nat) (listed:Array Bool) (V:Nat→Prop) (a:Act) (w:World):Prop :=
 Region.noSelect l.toArray=true→UG l hs tail j order listed=true→(∃ oj,l[j]?=some oj∧xy P oj t z) →
  wpR P l.toArray Q (Yl V0 N) (order.length+1+tail.length) listed a w ∧
  ∀ (oj:Oper) (w1:World) (g:Nat),l[j]?=some oj→Below w.heap.size w w1→Blk w1 g t z→N≤g→¬V g→wpR P l.toArray Q (Yl V0 N) (order.length+tail.length) (listed.setIfInBounds j true) (a.put oj.dst (.pointer (some ⟨g,0,none⟩))) w1
section
variable {P:Program} {l:List Oper} {hs tail:List Nat} {Q:Exit→Act→World→Prop} {V0 V:Nat→Prop} {N j:Nat} {t:TypeId} {z:Array Value} {rest:List Nat} {i:Nat} {o:Oper} {listed:Array Bool} {a:Act} {w:World}
theorem zv {id:Nat} {oj:Oper} (V0 V:Nat→Prop) (N:Nat) (hs order:List Nat) (j:Nat) (tail:List Nat) (t:TypeId) (z:Array Value) (hm:P.follows .mixedOrders=true) (hoj:l[j]?=some oj) (hmk:xy P oj t z)
  (hok:(Region.noSelect l.toArray&&order.length+1+tail.length == l.length&&UG l hs tail j order (List.replicate l.length false).toArray)=true)
  (h:wpY P l hs tail Q V0 N j t z order (List.replicate l.length false).toArray V a w.drew):(Code.region id l.toArray true).wp P Q a w:=by
 simp only [Bool.and_eq_true,beq_iff_eq] at hok
 refine JF (Yl V0 N) hm ?_
 rw [←hok.1.2]
 have:=(h hok.1.1 hok.2 ⟨oj,hoj,hmk⟩).1
 rwa [hok.1.2] at this ⊢
theorem Gf {order:List Nat} (h:∀ W,Hid (W=w)→Yl V0 N w W→wpY P l hs tail Q V0 N j t z order listed V a W):wpY P l hs tail Q V0 N j t z order listed V a w:=h w rfl ((Zb V0 N).refl w)
theorem Ue {v:Value} (ho:l[i]?=some o) (hw:Region.wanted o (yielded l.toArray a.tmps)=true) (hF:Hid (VZ V0 N V w)) (hQ:∀ c a w,Q (.panic c) (a.put o.dst v) w→Q (.panic c) a w)
  (hrun:∀ w',Yl V0 N w w'→(execOp a.eval o).run P w'= .ok (.value v) w') (h:wpY P l hs tail Q V0 N j t z rest (listed.setIfInBounds i true) V (a.put o.dst v) w):wpY P l hs tail Q V0 N j t z (i :: rest) listed V a w:=by
 intro hn hok hmk
 obtain ⟨⟨h1,h2,h3,h4⟩,⟨h5,h6⟩,⟨h7,h8⟩,-,h10⟩:=XE hok
 obtain ⟨k1,k2⟩:=h hn h10 hmk
 have e:=YN (h:=h1) ho
 subst e
 refine ⟨?_,fun oj w1 g hoj hb hg hNg hVg=>?_⟩
 ·have:=Xo i (Zb V0 N) h1 hn h5 h6 hQ (.inl ⟨hw,hrun⟩) k1
  rwa [show (i :: rest).length+1+tail.length=rest.length+1+tail.length+1 by simp;omega]
 ·obtain ⟨a1,a2,a3⟩:=Oper.apart_spec (VO h4 ho hoj)
  have hsel:∀ cs b,l[i].op≠.select cs b:=fun cs b=>Region.noSelect_spec hn i l[i] cs b (by rw [List.getElem?_toArray];exact ho)
  have k3:=k2 oj w1 g hoj hb hg hNg hVg
  rw [Array.setIfInBounds_comm _ _ h3,Act.put_comm a v _ a2] at k3
  have:=Xo (a:=a.put oj.dst (.pointer (some ⟨g,0,none⟩))) i (Zb V0 N) h1 hn h7 h8 hQ (.inl ⟨by rw [wanted_put _ _ _ _ a3];exact hw,fun w' hw'=>by rw [execOp_put _ hsel _ _ _ a3];exact hrun w' ((Zb V0 N).trans _ _ _ (Zm hb hF.out.size) hw')⟩) k3
  rwa [show (i :: rest).length+tail.length=rest.length+tail.length+1 by simp;omega]
theorem Jf (ho:l[i]?=some o) (hw:Region.wanted o (yielded l.toArray a.tmps)=false) (hQ:∀ c a w,Q (.panic c) (a.put o.dst undef) w→Q (.panic c) a w)
  (h:wpY P l hs tail Q V0 N j t z rest (listed.setIfInBounds i true) V (a.put o.dst undef) w):wpY P l hs tail Q V0 N j t z (i :: rest) listed V a w:=by
 intro hn hok hmk
 obtain ⟨⟨h1,h2,h3,h4⟩,⟨h5,h6⟩,⟨h7,h8⟩,-,h10⟩:=XE hok
 obtain ⟨k1,k2⟩:=h hn h10 hmk
 have e:=YN (h:=h1) ho
 subst e
 refine ⟨?_,fun oj w1 g hoj hb hg hNg hVg=>?_⟩
 ·have:=Xo i (Zb V0 N) h1 hn h5 h6 hQ (.inr ⟨hw,rfl⟩) k1
  rwa [show (i :: rest).length+1+tail.length=rest.length+1+tail.length+1 by simp;omega]
 ·obtain ⟨a1,a2,a3⟩:=Oper.apart_spec (VO h4 ho hoj)
  have k3:=k2 oj w1 g hoj hb hg hNg hVg
  rw [Array.setIfInBounds_comm _ _ h3,Act.put_comm a undef _ a2] at k3
  have:=Xo (a:=a.put oj.dst (.pointer (some ⟨g,0,none⟩))) i (Zb V0 N) h1 hn h7 h8 hQ (.inr ⟨by rw [wanted_put _ _ _ _ a3];exact hw,rfl⟩) k3
  rwa [show (i :: rest).length+tail.length=rest.length+tail.length+1 by simp;omega]
theorem VE {f:FuncId} {vals:Array Value} (hh:hs.contains i=true) (ho:l[i]?=some o) (hw:Region.wanted o (yielded l.toArray a.tmps)=true) (hF:Hid (VZ V0 N V w))
  (hrun:∀ w,(execOp a.eval o).run P w= .ok (.enter f vals) w)
  (h:∀ w1,Below w.heap.size w w1→Calls P f vals w1 fun e w'=>∃ v V',e= .returned v∧Moved V V' w1 w'∧(∀ b,V' b→b<w'.heap.size)∧wpY P l hs tail Q V0 N j t z rest (listed.setIfInBounds i true) V' (a.put o.dst v) w'):wpY P l hs tail Q V0 N j t z (i :: rest) listed V a w:=by
 intro hn hok hmk
 obtain ⟨⟨h1,h2,h3,h4⟩,⟨h5,h6⟩,⟨h7,h8⟩,h9,h10⟩:=XE hok
 obtain ⟨hr1,hr2⟩:=h9 hh
 obtain ⟨oj,hoj,gj,hmj⟩:=id hmk
 obtain ⟨a1,a2,a3⟩:=Oper.apart_spec (VO h4 ho hoj)
 have e:=YN (h:=h1) ho
 subst e
 have ej:=YN (h:=h2) hoj
 subst ej
 have hF:=hF.out
 have hsel:∀ cs b,l[i].op≠.select cs b:=fun cs b=>Region.noSelect_spec hn i l[i] cs b (by rw [List.getElem?_toArray];exact ho)
 have done:∀ (w1:World) (g:Nat),Below w.heap.size w w1→Blk w1 g t z→N≤g→¬V g→wpR P l.toArray Q (Yl V0 N) (rest.length+tail.length+1) (listed.setIfInBounds j true) (a.put l[j].dst (.pointer (some ⟨g,0,none⟩))) w1:=fun w1 g hb hg hNg hVg=>by
  refine zR i (Zb V0 N) h1 hr2 (by rw [wanted_put _ _ _ _ a3];exact hw) ((h w1 hb).mono ?_) (fun w=>by rw [execOp_put _ hsel _ _ _ a3];exact hrun w)
  rintro e w' ⟨v,V',rfl,hm,hlt,hx⟩
  refine ⟨v,rfl,YX (ZT hF hb) hm,?_⟩
  have k3:=(hx hn h10 hmk).2 l[j] w' g hoj (Below.refl _ _) (hg.moved hm hVg) hNg (Zn hm hg.lt hVg)
  rw [Array.setIfInBounds_comm _ _ h3,Act.put_comm a v _ a2] at k3
  exact k3
 have A1:wpS P l Q (Yl V0 N) i (rest.length+1+tail.length) listed a w:=by
  refine zY h1 hw ((h w (Below.refl _ _)).mono ?_) hrun
  rintro e w' ⟨v,V',rfl,hm,hlt,hx⟩
  exact ⟨v,rfl,YX hF hm,(hx hn h10 hmk).1⟩
 have A2:wpS P l Q (Yl V0 N) j (rest.length+1+tail.length) listed a w:=by
  refine ⟨h2,by simp [Region.wanted,gj],?_⟩
  unfold Oper.wp
  rw [hmj]
  have hb:Below w.heap.size w (w.alloc (.cells z t)):=(Below.refl _ w).alloc (Nat.le_refl _) _
  have:=done _ _ hb (Blk.new w t z) hF.size (fun e=>Nat.lt_irrefl _ (hF.lt _ e))
  rw [show rest.length+tail.length+1=rest.length+1+tail.length by omega] at this
  exact ⟨Zm hb hF.size,this⟩
 refine ⟨?_,fun oj w1 g hoj' hb hg hNg hVg=>?_⟩
 ·rw [show (i :: rest).length+1+tail.length=rest.length+1+tail.length+1 by simp;omega]
  rcases hr1 with hr | hr | hr
  ·exact UB i (Zb V0 N) hr A1
  ·exact Ux i j (Zb V0 N) hr A1 A2
  ·exact Ux j i (Zb V0 N) hr A2 A1
 ·have e:=YN (h:=h2) hoj'
  subst e
  have:=done w1 g hb hg hNg hVg
  rwa [show (i :: rest).length+tail.length=rest.length+tail.length+1 by simp;omega]
theorem yo (hh:hs.contains i=true) (ho:l[i]?=some o) (hw:Region.wanted o (yielded l.toArray a.tmps)=true) (hF:Hid (VZ V0 N V w))
  (h:∀ w1,Below w.heap.size w w1→∃ v w',(execOp a.eval o).run P w1= .ok (.value v) w'∧Below w1.heap.size w1 w'∧wpY P l hs tail Q V0 N j t z rest (listed.setIfInBounds i true) V (a.put o.dst v) w'):wpY P l hs tail Q V0 N j t z (i :: rest) listed V a w:=by
 intro hn hok hmk
 obtain ⟨⟨h1,h2,h3,h4⟩,⟨h5,h6⟩,⟨h7,h8⟩,h9,h10⟩:=XE hok
 obtain ⟨hr1,hr2⟩:=h9 hh
 obtain ⟨oj,hoj,gj,hmj⟩:=id hmk
 obtain ⟨a1,a2,a3⟩:=Oper.apart_spec (VO h4 ho hoj)
 have e:=YN (h:=h1) ho
 subst e
 have ej:=YN (h:=h2) hoj
 subst ej
 have hF:=hF.out
 have hsel:∀ cs b,l[i].op≠.select cs b:=fun cs b=>Region.noSelect_spec hn i l[i] cs b (by rw [List.getElem?_toArray];exact ho)
 have done:∀ (w1:World) (g:Nat),Below w.heap.size w w1→Blk w1 g t z→N≤g→¬V g→wpR P l.toArray Q (Yl V0 N) (rest.length+tail.length+1) (listed.setIfInBounds j true) (a.put l[j].dst (.pointer (some ⟨g,0,none⟩))) w1:=fun w1 g hb hg hNg hVg=>by
  obtain ⟨v,w',hrun,hb',hx⟩:=h w1 hb
  refine UB i (Zb V0 N) hr2 ⟨h1,by rw [wanted_put _ _ _ _ a3];exact hw,?_⟩
  unfold Oper.wp
  rw [execOp_put _ hsel _ _ _ a3,hrun]
  refine ⟨Zm hb' (Nat.le_trans hF.size hb.size),?_⟩
  have k3:=(hx hn h10 hmk).2 l[j] w' g hoj (Below.refl _ _) (hg.below hb' hg.lt) hNg hVg
  rw [Array.setIfInBounds_comm _ _ h3,Act.put_comm a v _ a2] at k3
  exact k3
 have A1:wpS P l Q (Yl V0 N) i (rest.length+1+tail.length) listed a w:=by
  obtain ⟨v,w',hrun,hb',hx⟩:=h w (Below.refl _ _)
  refine ⟨h1,hw,?_⟩
  unfold Oper.wp
  rw [hrun]
  exact ⟨Zm hb' hF.size,(hx hn h10 hmk).1⟩
 have A2:wpS P l Q (Yl V0 N) j (rest.length+1+tail.length) listed a w:=by
  refine ⟨h2,by simp [Region.wanted,gj],?_⟩
  unfold Oper.wp
  rw [hmj]
  have hb:Below w.heap.size w (w.alloc (.cells z t)):=(Below.refl _ w).alloc (Nat.le_refl _) _
  have:=done _ _ hb (Blk.new w t z) hF.size (fun e=>Nat.lt_irrefl _ (hF.lt _ e))
  rw [show rest.length+tail.length+1=rest.length+1+tail.length by omega] at this
  exact ⟨Zm hb hF.size,this⟩
 refine ⟨?_,fun oj w1 g hoj' hb hg hNg hVg=>?_⟩
 ·rw [show (i :: rest).length+1+tail.length=rest.length+1+tail.length+1 by simp;omega]
  rcases hr1 with hr | hr | hr
  ·exact UB i (Zb V0 N) hr A1
  ·exact Ux i j (Zb V0 N) hr A1 A2
  ·exact Ux j i (Zb V0 N) hr A2 A1
 ·have e:=YN (h:=h2) hoj'
  subst e
  have:=done w1 g hb hg hNg hVg
  rwa [show (i :: rest).length+tail.length=rest.length+tail.length+1 by simp;omega]
theorem xw (hF:Hid (VZ V0 N V w)) (h:∀ (oj:Oper) (w1:World) (g:Nat),l[j]?=some oj→Below w.heap.size w w1→Blk w1 g t z→N≤g→¬V g→wpO P l hs Q (Yl V0 N) tail (listed.setIfInBounds j true) (a.put oj.dst (.pointer (some ⟨g,0,none⟩))) w1):wpY P l hs tail Q V0 N j t z [] listed V a w:=by
 intro hn hok hmk
 unfold UG at hok
 simp only [Bool.and_eq_true,decide_eq_true_eq,beq_iff_eq] at hok
 obtain ⟨⟨h2,hr⟩,hk⟩:=hok
 obtain ⟨oj,hoj,gj,hmj⟩:=id hmk
 have ej:=YN (h:=h2) hoj
 subst ej
 have hF:=hF.out
 refine ⟨?_,fun oj w1 g hoj' hb hg hNg hVg=>?_⟩
 ·rw [show ([]:List Nat).length+1+tail.length=tail.length+1 by simp;omega]
  refine UB j (Zb V0 N) hr ⟨h2,by simp [Region.wanted,gj],?_⟩
  unfold Oper.wp
  rw [hmj]
  have hb:Below w.heap.size w (w.alloc (.cells z t)):=(Below.refl _ w).alloc (Nat.le_refl _) _
  exact ⟨Zm hb hF.size,h _ _ _ hoj hb (Blk.new w t z) hF.size (fun e=>Nat.lt_irrefl _ (hF.lt _ e)) hn hk⟩
 ·rw [show ([]:List Nat).length+tail.length=tail.length by simp]
  exact h oj w1 g hoj' hb hg hNg hVg hn hk
end
end Go.Proofs.Ytbiieaiahdihnaa
