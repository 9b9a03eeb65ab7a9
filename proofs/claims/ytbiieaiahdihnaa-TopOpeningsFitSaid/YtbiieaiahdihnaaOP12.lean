/- A part of the proof. No condition. -/
import Derived.Test.YtbiieaiahdihnaaProg
import Derived.Test.YtbiieaiahdihnaaOP10
import Derived.Test.YtbiieaiahdihnaaOP11

namespace Go.Proofs.Ytbiieaiahdihnaa
open Go.RowKit
set_option maxRecDepth 100000 in
set_option maxHeartbeats 1000000 in
theorem yc (p a e:Nat) (w:World) (hp:okP p=true) (he:e<18446744073709551616) :
  Calls Try.prog 81 #[.int .u64 p, .int .u64 a, .int .u64 e] w fun e' w'=>e'= .returned (.int .u64 ((a^e%p:Nat):Int))∧Below w.heap.size w w':=by
 obtain ⟨hp1,hp2⟩:=Yb hp
 have HO:=Lib.hid (fun w=>by have:=Yg p w hp2;rw [hp] at this;exact this)
 have HM:=Lib.hid (fun a b w=>KM p a b w hp)
 obtain ⟨n,hn⟩:∃ n,n=a^e%p:=⟨_,rfl⟩
 rw [←hn]
 have HI:=Lib.hid (show 1*(a%p)^e%p=n by rw [Nat.one_mul,←Nat.pow_mod,hn])
 have HP:=Lib.hid hp1
 have p1:(0:Int)<(p:Int):=by omega
 have e1:(a:Int)%(p:Int)=((a%p:Nat):Int):=rfl
 have e2:(a:Int).tmod (p:Int)=((a%p:Nat):Int):=rfl
 have p3:¬(p=0):=by omega
 clear hn hp hp1 hp2
 generalize a%p=a0 at *
 go_enter Try.func81,Try.ntmps81
 go_wp2_with fail
 refine (HO.out _).mono ?_
 rintro e' w1 ⟨rfl,hb0⟩
 go_wp2_with fail
 clear e1 e2
 go_loopw [1,2,7] (fun x y z wr=>∃ a' e' r:Nat,x= .int .u64 (a':Int)∧y= .int .u64 (e':Int)∧z= .int .u64 (r:Int)∧r<p∧e'<18446744073709551616∧Hid (r*a'^e'%p=n)∧Below w.heap.size w wr) (fun _ y _ _=>(intOf y).toNat)
 case atStart=>exact ⟨a0,e,1,rfl,rfl,rfl,by have:=HP.out;omega,he,HI.out,hb0⟩
 case round =>
  clear hb0
  obtain ⟨a',e',r,rfl,rfl,rfl,hr',he',H,hbr⟩:=hrel
  by_cases h0:e'=0
  ·subst h0
   have HE:=Lib.hid (show r=n by have:=H.out;rw [Nat.pow_zero,Nat.mul_one,Nat.mod_eq_of_lt hr'] at this;exact this)
   go_wp2
   go_ret
   exact ⟨by rw [HE.out];rfl,hbr⟩
  ·have g1:(0:Int)<(e':Int):=by omega
   obtain ⟨f,hf⟩:∃ f,f=e' / 2:=⟨_,rfl⟩
   have e1:(e':Int) / 2=(f:Int):=by omega
   have e2:(e':Int).tdiv 2=(f:Int):=by rw [Int.tdiv_eq_ediv_of_nonneg (by omega)];exact e1
   have HQ:=Lib.hid (fun w=>HM.out a' a' w)
   rcases (show e'%2=1∨e'%2=0 by omega) with hodd | hodd
   ·have eb:(e':Int)%2=1:=by omega
    have ec:(e':Int).tmod 2=1:=by rw [Int.tmod_eq_emod_of_nonneg (by omega)];exact eb
    have HF:=Lib.hid hf
    have HM1:=Lib.hid (fun w=>HM.out r a' w)
    have HX:=G4 p r a' e' n H.out hodd
    rw [←hf] at HX
    have hs2:r*a'%p<p:=Nat.mod_lt _ (by have:=HP.out;omega)
    generalize r*a'%p=s at *
    generalize a'*a'%p=q at *
    replace HX:=Lib.hid HX
    clear hodd hf
    go_wp2_with fail
    refine (HM1.out _).mono ?_
    rintro e w1 ⟨rfl,hb1⟩
    replace hbr:=YJ hbr hb1 hbr.size
    clear hb1
    go_wp2_with fail
    refine (HQ.out _).mono ?_
    rintro e w2 ⟨rfl,hb2⟩
    replace hbr:=YJ hbr hb2 hbr.size
    go_wp2
    go_roundw
    case rel=>exact ⟨q,f,s,rfl,rfl,rfl,hs2,by have:=HF.out;omega,HX.out,hbr⟩
    case measure=>have:=HF.out;simp [intOf];omega
   ·have eb:(e':Int)%2=0:=by omega
    have ec:(e':Int).tmod 2=0:=by rw [Int.tmod_eq_emod_of_nonneg (by omega)];exact eb
    have HF:=Lib.hid hf
    have HX:=KD p r a' e' n H.out hodd
    rw [←hf] at HX
    generalize a'*a'%p=q at *
    replace HX:=Lib.hid HX
    clear hodd hf
    go_wp2_with fail
    refine (HQ.out _).mono ?_
    rintro e w2 ⟨rfl,hb2⟩
    replace hbr:=YJ hbr hb2 hbr.size
    go_wp2
    go_roundw
    case rel=>exact ⟨q,f,r,rfl,rfl,rfl,hr',by have:=HF.out;omega,HX.out,hbr⟩
    case measure=>have:=HF.out;simp [intOf];omega
theorem yq {w:World} {a b c:Value}:(Instr.index 80 (.agg #[a,b,c]) (.int .i64 2)).run Try.prog w= .ok c w :=
 Xd (i:=2) Try.underlying80 J2 UZ (by omega) rfl
set_option maxRecDepth 100000 in
set_option maxHeartbeats 400000 in
theorem zV (p:Nat) (w:World) (hp:okP p=true) :
  Calls Try.prog 83 #[.int .u64 p] w fun e w'=>e= .returned (.int .u64 ((Z5 p).2.2:Int))∧Below w.heap.size w w':=by
 have HR:=Lib.hid (GQ p w (Yb hp).2)
 clear hp
 unfold UT at HR
 generalize (Z5 p).1=a at *
 generalize (Z5 p).2.1=b at *
 generalize (Z5 p).2.2=c at *
 go_enter Try.func83,Try.ntmps83
 go_wp2_with (go_at_call 54;refine HR.out.mono ?_;rintro e w1 ⟨rfl,hb⟩)
 rw [yq,Result.andThen,Oper.upon_value]
 go_wp2
 go_ret
 exact ⟨rfl,hb⟩
def y9 (p:Nat) (l:List Nat):Nat:=l.foldl (fun s x=>(s+x)%p) 0
set_option maxRecDepth 100000 in
set_option maxHeartbeats 400000 in
theorem yn (p:Nat) (A:Option Addr) (n c:Nat) (l:List Nat) (w:World) (hp:okP p=true) (hl:RWd w [.slice A n c] l) :
  Calls Try.prog 98 #[.int .u64 p, .slice A n c] w fun e w'=>e= .returned (.int .u64 (y9 p l:Int))∧Below w.heap.size w w':=by
 obtain ⟨rfl,h1,h2,hlt,hrd⟩:=ZO hl
 have gm:=YY h1 h2
 have HA:=Lib.hid (fun a b w=>XU p a b w hp)
 have HS:=Lib.hid (show y9 p l=l.foldl (fun s x=>(s+x)%p) 0 from rfl)
 rw [HS.out]
 clear HS hl h1 h2 hp hlt
 go_enter Try.func98,Try.ntmps98
 go_wp2_with fail
 go_loopw [5,6] (fun y i wr=>∃ k:Nat,k≤l.length∧i= .int .i64 (k:Int)∧y= .int .u64 (((l.take k).foldl (fun s x=>(s+x)%p) 0:Nat):Int)∧Below w.heap.size w wr) (fun _ i _=>l.length-(intOf i).toNat)
 case atStart=>exact ⟨0,Nat.zero_le _,rfl,rfl,Below.refl _ _⟩
 case round =>
  obtain ⟨k,hk,rfl,rfl,hbr⟩:=hrel
  by_cases hlt:k<l.length
  ·obtain ⟨b,q,rfl,hbl,hc⟩:=ZN (hrd.below hbr) hlt
   have HF:=Lib.hid (xe (fun s x=>(s+x)%p) 0 l k hlt)
   generalize l.getD k 0=y at *
   generalize (l.take k).foldl (fun s x=>(s+x)%p) 0=s at *
   have HA1:=Lib.hid (fun w=>HA.out s y w)
   have HF2:=Lib.hid (show (l.take (k+1)).foldl (fun s x=>(s+x)%p) 0=(s+y)%p from HF.out)
   clear HF
   generalize (s+y)%p=z at *
   have g1:(0:Int)≤(k:Int):=by omega
   have g2:(k:Int)<(l.length:Int):=by omega
   go_wp2_with fail
   refine (HA1.out _).mono ?_
   rintro e w1 ⟨rfl,hb1⟩
   replace hbr:=YJ hbr hb1 hbr.size
   clear hc hb1
   go_wp2
   go_roundw
   case rel=>exact ⟨k+1,by omega,by go_num,by rw [HF2.out],hbr⟩
   case measure=>simp [intOf];omega
  ·obtain rfl:k=l.length:=by omega
   rw [List.take_length]
   go_wp2
   go_ret
   exact ⟨rfl,hbr⟩
set_option maxRecDepth 100000 in
set_option maxHeartbeats 400000 in
theorem GD (p r i:Nat) (w:World) (hp:okP p=true) (hr:r<8) (hi:i<3) :
  Calls Try.prog 82 #[.int .u64 p, .int .i64 (r:Int), .int .i64 (i:Int)] w fun e w'=>e= .returned (.int .u64 (Y3 p r i:Int))∧Below w.heap.size w w':=by
 obtain ⟨hp1,hp2⟩:=Yb hp
 have HO:=Lib.hid (fun w=>by have:=Yg p w hp2;rw [hp] at this;exact this)
 have HC:=Lib.hid (show Y3 p r i=VB (3*r+i+1)%p from rfl)
 rw [HC.out]
 clear HC hp
 obtain ⟨k,hk⟩:∃ k,k=3*r+i+1:=⟨_,rfl⟩
 rw [←hk]
 have g1:(r:Int)≤7:=by omega
 have g2:(i:Int)≤2:=by omega
 have e1:3*(r:Int)+(i:Int)+1=(k:Int):=by omega
 have e2:IntKind.u64.wrap (k:Int)=(k:Int):=YO _ (by omega)
 have e3:IntKind.u64.wrap ((k:Int)*11400714819323198485)=(VB k:Int):=by
  rw [IntKind.wrap_u64]
  have:((k:Int)*11400714819323198485)=((k*11400714819323198485:Nat):Int):=by rw [Int.natCast_mul];rfl
  rw [this]
  rfl
 have e4:(VB k:Int)%(p:Int)=((VB k%p:Nat):Int):=rfl
 have e5:(VB k:Int).tmod (p:Int)=((VB k%p:Nat):Int):=rfl
 have p1:(0:Int)<(p:Int):=by omega
 have p3:¬(p=0):=by omega
 clear hk hr hi
 generalize VB k%p=m at *
 generalize VB k=z at *
 go_enter Try.func82,Try.ntmps82
 go_wp2_with fail
 refine (HO.out _).mono ?_
 rintro e w1 ⟨rfl,hb⟩
 go_wp2
 go_ret
 exact ⟨rfl,hb⟩
def Jp (f:Nat→Nat) (s:St):Nat→St
 | 0=>⟨0,0,0⟩
 | 1=>⟨f s.a,0,0⟩
 | 2=>⟨f s.a,f s.b,0⟩
 | _=>⟨f s.a,f s.b,f s.c⟩
theorem yh (f:Nat→Nat) (s:St) {i:Nat} (h:i<3):(Jp f s i).cs.setIfInBounds i (.int .u64 (f (s.at_ i):Int))=(Jp f s (i+1)).cs:=by
 rcases (show i=0∨i=1∨i=2 by omega) with rfl | rfl | rfl <;> simp [Jp,St.cs,St.at_]
theorem sum3 (p:Nat) (s:St):y9 p [s.a,s.b,s.c]=Z8 p s:=by
 simp [y9,Z8]
theorem St.lit (s:St):(U64 [s.a,s.b,s.c]).toArray=s.cs:=rfl
set_option maxRecDepth 100000 in
set_option maxHeartbeats 1000000 in
theorem yU (p:Nat) (s:St) (w:World) (hp:okP p=true) (hs:s.ok) :
  Calls Try.prog 84 #[.int .u64 p,s.val] w fun e w'=>e= .returned (JX p s).val∧Below w.heap.size w w':=by
 have HA:=Lib.hid (fun a b w=>XU p a b w hp)
 have HR:=Lib.hid (show JX p s=Jp (fun x=>(x+Z8 p s)%p) s 3 from rfl)
 rw [HR.out]
 obtain ⟨k1,k2,k3,hb0,hsz⟩:=JS w 80 80 26 #[.int .u64 (s.a:Int), .int .u64 (s.b:Int), .int .u64 (s.c:Int)] #[.int .u64 0, .int .u64 0, .int .u64 0] #[.int .u64 (s.a:Int), .int .u64 (s.b:Int), .int .u64 (s.c:Int)]
 have hlist:RWd _ [.slice (some ⟨w.heap.size+1+1,0,none⟩) 3 3] [s.a,s.b,s.c]:=J3 (l:=[s.a,s.b,s.c]) k3 (fun x hx=>by
  simp at hx
  rcases hx with rfl | rfl | rfl
  ·exact hs.1
  ·exact hs.2.1
  ·exact hs.2.2) (by simp [maxLen])
 have HSM:=Lib.hid (yn p _ 3 3 [s.a,s.b,s.c] _ hp hlist)
 rw [sum3] at HSM
 clear HR hlist hp hs k3
 generalize hm:Z8 p s=m at *
 clear hm
 have ev:s.val= .agg #[.int .u64 (s.a:Int), .int .u64 (s.b:Int), .int .u64 (s.c:Int)]:=rfl
 rw [ev]
 clear ev
 go_enter Try.func84,Try.ntmps84
 go_wp2_with fail
 generalize ((w.alloc _).alloc _).alloc _=w0 at k1 k2 hb0 hsz HSM ⊢
 refine HSM.out.mono ?_
 rintro e w1 ⟨rfl,hb1⟩
 replace k1:=k1.below hb1 k1.lt
 replace k2:=k2.below hb1 k2.lt
 replace hb0:=Za hb0 hb1
 have hs1:=hb1.size
 clear hb1 HSM
 have hal:=(Below.refl w1.heap.size w1).alloc (Nat.le_refl _) (.cells #[.int .u64 0, .int .u64 0, .int .u64 0] 80)
 have k4:=Blk.new w1 80 #[.int .u64 0, .int .u64 0, .int .u64 0]
 replace k1:=k1.below hal k1.lt
 replace k2:=k2.below hal k2.lt
 replace hb0:=Za hb0 hal
 have hgl:w.heap.size+1<w1.heap.size:=by omega
 clear hal
 go_upto_block 0 with fail
 generalize w1.alloc _=w2 at k1 k2 k4 hb0 ⊢
 generalize w1.heap.size=g at k4 hgl ⊢
 clear hs1
 have k4':Blk w2 g 80 (Jp (fun x=>(x+m)%p) s 0).cs:=k4
 have k1':Blk w2 w.heap.size 80 s.cs:=k1
 clear k1 k4
 go_wp2_with fail
 go_loopw [7] (fun i wr=>∃ k:Nat,k≤3∧i= .int .i64 (k:Int)∧Blk wr w.heap.size 80 s.cs∧Blk wr (w.heap.size+1) 80 #[.int .u64 0, .int .u64 0, .int .u64 0]∧Blk wr g 80 (Jp (fun x=>(x+m)%p) s k).cs∧Below w.heap.size w wr) (fun i _=>3-(intOf i).toNat)
 case atStart=>exact ⟨0,Nat.zero_le _,rfl,k1',k2,k4',hb0⟩
 case round =>
  clear k1' k2 k4' hb0
  obtain ⟨k,hk,rfl,k1,k2,k4,hb0⟩:=hrel
  by_cases hlt:k<3
  ·have g1:(k:Int)<3:=by omega
   have cm:=k1.cell k
   rw [St.cs_at _ hlt] at cm
   obtain ⟨y,hy⟩:∃ y,y=(s.at_ k+m)%p:=⟨_,rfl⟩
   have HSET:=Lib.hid (show (Jp (fun x=>(x+m)%p) s k).cs.setIfInBounds k (.int .u64 (y:Int))=(Jp (fun x=>(x+m)%p) s (k+1)).cs from by rw [hy];exact yh (fun x=>(x+m)%p) s hlt)
   have HA1:=Lib.hid (fun w=>HA.out (s.at_ k) m w)
   rw [←hy] at HA1
   clear hy
   have cz:=k4.cell k
   rw [St.cs_at _ hlt] at cz
   generalize (Jp (fun x=>(x+m)%p) s k).at_ k=old at cz
   generalize s.at_ k=x at *
   go_wp2_with fail
   refine (HA1.out _).mono ?_
   rintro e w3 ⟨rfl,hb3⟩
   have cz3:w3.cell? ⟨g,k,none⟩=some (.int .u64 (old:Int)):=(Below.cell hb3 (World.block_lt_of_cell? _ _ cz)).trans cz
   replace k1:=k1.below hb3 k1.lt
   replace k2:=k2.below hb3 k2.lt
   replace k4:=k4.below hb3 k4.lt
   replace hb0:=Za hb0 hb3
   have f4:=k4.frozen k
   clear cz cm hb3
   go_wp2_with fail
   have hg:w3.grownBy (w3.setCell ⟨g,k,none⟩ (.int .u64 (y:Int))) (some g):=Zj (p:=⟨g,k,none⟩) (Zl w3 _) (.inl rfl) _
   replace k4:=k4.set_ k (.int .u64 (y:Int))
   rw [HSET.out] at k4
   replace k1:=k1.grown hg (fun e=>by have:=Option.some.inj e;omega)
   replace k2:=k2.grown hg (fun e=>by have:=Option.some.inj e;omega)
   replace hb0:=hb0.trans (Ze hg hb0.size (by omega))
   clear hg f4 cz3
   generalize w3.setCell _ _=Wf at k1 k2 k4 hb0 ⊢
   go_roundw
   case rel=>exact ⟨k+1,by omega,by go_num,k1,k2,k4,hb0⟩
   case measure=>simp [intOf];omega
  ·obtain rfl:k=3:=by omega
   obtain ⟨q,hq⟩:∃ q,q=Jp (fun x=>(x+m)%p) s 3:=⟨_,rfl⟩
   rw [←hq] at k4
   have HQ:=Lib.hid hq
   clear hq
   have k4':Blk wr g 80 #[.int .u64 (q.a:Int), .int .u64 (q.b:Int), .int .u64 (q.c:Int)]:=k4
   have c4:=k4'.cell
   have c2:=k2.cell
   have f2:=k2.frozen
   go_wp2_with fail
   have hg:=Zr (w:=wr) (g:=w.heap.size+1) (.int .u64 (q.a:Int)) (.int .u64 (q.b:Int)) (.int .u64 (q.c:Int))
   have kz:=ZG k2 (.int .u64 (q.a:Int)) (.int .u64 (q.b:Int)) (.int .u64 (q.c:Int))
   clear c4 c2 f2 k2
   generalize ((World.setCell wr _ _).setCell _ _).setCell _ _=Wf at hg kz ⊢
   have cz:=kz.cell
   have hs:=hb0.size
   exact bodyPost_ret (v:=.agg #[.int .u64 (q.a:Int), .int .u64 (q.b:Int), .int .u64 (q.c:Int)]) (by simp [results,Try.results84,go_sem,cz]) rfl ⟨by rw [←HQ.out];rfl,hb0.trans (Ze hg hs (by omega))⟩
theorem St.ok_of_lt {s:St} {p:Nat} (hp:p<18446744073709551616) (h1:s.a<p) (h2:s.b<p) (h3:s.c<p):s.ok:=⟨by omega,by omega,by omega⟩
theorem yx {p:Nat} (h1:0<p) (r i x:Nat):Y1 p r i x<p:=Nat.mod_lt _ h1
set_option maxRecDepth 100000 in
set_option maxHeartbeats 1000000 in
theorem J0 (p:Nat) (s:St) (w:World) (hp:okP p=true) :
  Calls Try.prog 57 #[.int .u64 p,s.val] w fun e w'=>e= .returned (Yq p s).val∧Below w.heap.size w w':=by
 obtain ⟨hp1,hp2⟩:=Yb hp
 have HV:=Lib.hid (fun w=>by have:=Yg p w hp2;rw [hp] at this;exact this)
 have HE:=Lib.hid (fun w=>zV p w hp)
 have HC:=Lib.hid (fun r i w hr hi=>GD p r i w hp hr hi)
 have HA:=Lib.hid (fun a b w=>XU p a b w hp)
 have HP:=Lib.hid (fun a n w hn=>yc p a n w hp hn)
 have HM:=Lib.hid (fun s w h=>yU p s w hp h)
 have HSO:=Lib.hid (show ∀ (f:Nat→Nat→Nat) (t:St),(∀ i x,f i x<p)→(Uw f t 3).ok from fun f t h=>St.ok_of_lt hp2 (h 0 _) (h 1 _) (h 2 _))
 have HSL:=Lib.hid (show ∀ r i x,Y1 p r i x<p from fun r i x=>yx (by omega) r i x)
 have hel:=(Ky hp).2
 have HSB:=Lib.hid (show ∀ r i x,Y1 p r i x=((x+Y3 p r i)%p)^(Z5 p).2.2%p from fun _ _ _=>rfl)
 clear hp hp1 hp2
 generalize (Z5 p).2.2=ex at *
 have HEL:=Lib.hid hel
 clear hel
 obtain ⟨k1,k2,hb0,hsz⟩:=Xs w 80 80 #[.int .u64 (s.a:Int), .int .u64 (s.b:Int), .int .u64 (s.c:Int)] #[.int .u64 0, .int .u64 0, .int .u64 0]
 have HPO:=Lib.hid (show (Yq p s).val=(Ym p s 8).val from rfl)
 rw [HPO.out]
 clear HPO
 have ev:s.val= .agg #[.int .u64 (s.a:Int), .int .u64 (s.b:Int), .int .u64 (s.c:Int)]:=rfl
 rw [ev]
 clear ev
 go_enter Try.func57,Try.ntmps57
 go_wp2_with fail
 generalize (w.alloc _).alloc _=w0 at k1 k2 hb0 hsz ⊢
 refine (HV.out _).mono ?_
 rintro e w2 ⟨rfl,hb2⟩
 replace k1:Blk w2 w.heap.size 80 (Ym p s 0).cs:=k1.below hb2 k1.lt
 replace k2:=k2.below hb2 k2.lt
 replace hb0:=Za hb0 hb2
 clear hb2 hsz HV
 go_wp2_with fail
 go_loopw [5] (fun i wr=>∃ r:Nat,r≤8∧i= .int .i64 (r:Int)∧Blk wr w.heap.size 80 (Ym p s r).cs∧Blk wr (w.heap.size+1) 80 #[.int .u64 0, .int .u64 0, .int .u64 0]∧Below w.heap.size w wr) (fun i _=>8-(intOf i).toNat)
 case atStart=>exact ⟨0,Nat.zero_le _,rfl,k1,k2,hb0⟩
 case round =>
  clear k1 k2 hb0
  obtain ⟨r,hr,rfl,k1,k2,hb0⟩:=hrel
  by_cases hlt:r<8
  ·have g1:(r:Int)<8:=by omega
   obtain ⟨t,ht⟩:∃ t,t=Ym p s r:=⟨_,rfl⟩
   rw [←ht] at k1
   have HT:=Lib.hid (show Ym p s (r+1)=JX p (Uw (Y1 p r) t 3) by rw [Ym,←ht];rfl)
   clear ht
   go_wp2_with fail
   go_loopw [6] (fun i wr=>∃ m:Nat,m≤3∧i= .int .i64 (m:Int)∧Blk wr w.heap.size 80 (Uw (Y1 p r) t m).cs∧Blk wr (w.heap.size+1) 80 #[.int .u64 0, .int .u64 0, .int .u64 0]∧Below w.heap.size w wr) (fun i _=>3-(intOf i).toNat)
   case atStart=>exact ⟨0,Nat.zero_le _,rfl,k1,k2,hb0⟩
   case round =>
    clear k1 k2 hb0
    obtain ⟨m,hm,rfl,k1,k2,hb0⟩:=hrel
    by_cases hlt2:m<3
    ·have g2:(m:Int)<3:=by omega
     have cm:=k1.cell m
     rw [St.cs_at _ hlt2,G7 _ _ hlt2] at cm
     have HSET:=Lib.hid (Kr (Y1 p r) t hlt2)
     have HSV:=Lib.hid (HSB.out r m (t.at_ m))
     have HC1:=Lib.hid (fun w=>HC.out r m w hlt hlt2)
     have HA1:=Lib.hid (fun w=>HA.out (t.at_ m) (Y3 p r m) w)
     have HP1:=Lib.hid (fun w=>HP.out ((t.at_ m+Y3 p r m)%p) ex w HEL.out)
     rw [←HSV.out] at HP1
     clear HSV
     generalize Y1 p r m (t.at_ m)=sv at *
     generalize (t.at_ m+Y3 p r m)%p=av at *
     generalize Y3 p r m=cv at *
     generalize t.at_ m=xv at *
     have l1:=k1.lt
     go_wp2_with fail
     refine Zp (ZQ) (later_moves) [15] [15] [0,1,2,3,4,5,6,7,8,9,10,11,12,13,14,15] (by kernel_rfl) (by kernel_rfl) ?_
     refine Zo (later_moves) ?_
     intro Wc hacc
     repeat (first | (refine Zf (later_moves) rfl rfl rfl rfl (fun _ _ _ h=>h) ?_;simp only [Act.put,zLa,zLb,zLc]) | (refine Zd (v:=?_) (later_moves) rfl rfl rfl rfl (fun _ _ _ h=>h) ?_ ?_;rotate_left;(· (intro w' hR;(first | have hcells:=Zc ((later_moves).trans _ _ _ hacc hR) | skip);go_simp;try with_reducible rfl));simp only [Act.put,zLa,zLb,zLc]) | (refine Zi (v:=?_) rfl rfl rfl rfl (fun _ _ _ h=>h) ?_ ?_;rotate_left;(· (intro w';go_simp;try with_reducible rfl));simp only [Act.put,zLa,zLb,zLc]))
     refine Zk (later_moves) rfl rfl rfl rfl (fun _ _ _ h=>h) (fun _=>by go_simp <;> rfl) (fun w' hR=>HC1.out _) ?_
     simp only [Act.put,zLa,zLb,zLc]
     repeat (first | (refine Zf (later_moves) rfl rfl rfl rfl (fun _ _ _ h=>h) ?_;simp only [Act.put,zLa,zLb,zLc]) | (refine Zd (v:=?_) (later_moves) rfl rfl rfl rfl (fun _ _ _ h=>h) ?_ ?_;rotate_left;(· (intro w' hR;(first | have hcells:=Zc ((later_moves).trans _ _ _ hacc hR) | skip);go_simp;try with_reducible rfl));simp only [Act.put,zLa,zLb,zLc]) | (refine Zi (v:=?_) rfl rfl rfl rfl (fun _ _ _ h=>h) ?_ ?_;rotate_left;(· (intro w';go_simp;try with_reducible rfl));simp only [Act.put,zLa,zLb,zLc]))
     refine Zk (later_moves) rfl rfl rfl rfl (fun _ _ _ h=>h) (fun _=>by go_simp <;> rfl) (fun w' hR=>HA1.out _) ?_
     simp only [Act.put,zLa,zLb,zLc]
     repeat (first | (refine Zf (later_moves) rfl rfl rfl rfl (fun _ _ _ h=>h) ?_;simp only [Act.put,zLa,zLb,zLc]) | (refine Zd (v:=?_) (later_moves) rfl rfl rfl rfl (fun _ _ _ h=>h) ?_ ?_;rotate_left;(· (intro w' hR;(first | have hcells:=Zc ((later_moves).trans _ _ _ hacc hR) | skip);go_simp;try with_reducible rfl));simp only [Act.put,zLa,zLb,zLc]) | (refine Zi (v:=?_) rfl rfl rfl rfl (fun _ _ _ h=>h) ?_ ?_;rotate_left;(· (intro w';go_simp;try with_reducible rfl));simp only [Act.put,zLa,zLb,zLc]))
     refine Zk (later_moves) rfl rfl rfl rfl (fun _ _ _ h=>h) (fun _=>by go_simp <;> rfl) (fun w' hR=>HE.out _) ?_
     simp only [Act.put,zLa,zLb,zLc]
     repeat (first | (refine Zf (later_moves) rfl rfl rfl rfl (fun _ _ _ h=>h) ?_;simp only [Act.put,zLa,zLb,zLc]) | (refine Zd (v:=?_) (later_moves) rfl rfl rfl rfl (fun _ _ _ h=>h) ?_ ?_;rotate_left;(· (intro w' hR;(first | have hcells:=Zc ((later_moves).trans _ _ _ hacc hR) | skip);go_simp;try with_reducible rfl));simp only [Act.put,zLa,zLb,zLc]) | (refine Zi (v:=?_) rfl rfl rfl rfl (fun _ _ _ h=>h) ?_ ?_;rotate_left;(· (intro w';go_simp;try with_reducible rfl));simp only [Act.put,zLa,zLb,zLc]))
     refine Zk (later_moves) rfl rfl rfl rfl (fun _ _ _ h=>h) (fun _=>by go_simp <;> rfl) (fun w' hR=>HP1.out _) ?_
     simp only [Act.put,zLa,zLb,zLc]
     repeat (first | (refine Zf (later_moves) rfl rfl rfl rfl (fun _ _ _ h=>h) ?_;simp only [Act.put,zLa,zLb,zLc]) | (refine Zd (v:=?_) (later_moves) rfl rfl rfl rfl (fun _ _ _ h=>h) ?_ ?_;rotate_left;(· (intro w' hR;(first | have hcells:=Zc ((later_moves).trans _ _ _ hacc hR) | skip);go_simp;try with_reducible rfl));simp only [Act.put,zLa,zLb,zLc]) | (refine Zi (v:=?_) rfl rfl rfl rfl (fun _ _ _ h=>h) ?_ ?_;rotate_left;(· (intro w';go_simp;try with_reducible rfl));simp only [Act.put,zLa,zLb,zLc]))
     refine Zt rfl rfl rfl rfl ?_
     intro wh hRh
     replace hacc:=(later_moves).trans _ _ _ hacc hRh
     replace k1:=k1.drew.below hacc k1.lt
     replace k2:=k2.drew.below hacc k2.lt
     replace hb0:=Za hb0.drew hacc
     have f1:=k1.frozen m
     have cm2:wh.cell? ⟨w.heap.size,m,none⟩=some (.int .u64 (xv:Int)):=U4 hacc cm
     clear l1 cm
     go_simp
     refine ⟨fun h=>Bool.noConfusion h,?_⟩
     have hg:wh.grownBy (wh.setCell ⟨w.heap.size,m,none⟩ (.int .u64 (sv:Int))) (some w.heap.size):=Zj (p:=⟨w.heap.size,m,none⟩) (Zl wh _) (.inl rfl) _
     replace k1:=k1.set_ m (.int .u64 (sv:Int))
     rw [HSET.out] at k1
     replace k2:=k2.grown hg (fun e=>by have:=Option.some.inj e;omega)
     replace hb0:=hb0.trans (Ze hg hb0.size (Nat.le_refl _))
     clear hg f1 cm2
     generalize wh.setCell _ _=Wf at k1 k2 hb0 ⊢
     refine Zw rfl ?_
     go_wp2
     go_roundw
     case rel=>exact ⟨m+1,by omega,by go_num,k1,k2,hb0⟩
     case measure=>simp [intOf];omega
    ·obtain rfl:m=3:=by omega
     obtain ⟨q,hq⟩:∃ q,q=Uw (Y1 p r) t 3:=⟨_,rfl⟩
     have hqo:q.ok:=by rw [hq];exact HSO.out _ _ (HSL.out r)
     rw [←hq] at k1 HT
     clear hq
     have k1':Blk wr w.heap.size 80 #[.int .u64 (q.a:Int), .int .u64 (q.b:Int), .int .u64 (q.c:Int)]:=k1
     obtain ⟨z,hz⟩:∃ z,z=JX p q:=⟨_,rfl⟩
     rw [←hz] at HT
     have HM1:=Lib.hid (show ∀ w,Calls Try.prog 84 #[.int .u64 p, .agg #[.int .u64 (q.a:Int), .int .u64 (q.b:Int), .int .u64 (q.c:Int)]] w fun e w'=>e= .returned (.agg #[.int .u64 (z.a:Int), .int .u64 (z.b:Int), .int .u64 (z.c:Int)])∧Below w.heap.size w w' from fun w=>by rw [hz];exact HM.out q w hqo)
     clear hz k1 hqo
     have c1:=k1'.cell
     go_wp2_with fail
     refine (HM1.out _).mono ?_
     rintro e w5 ⟨rfl,hb5⟩
     replace k1':=k1'.below hb5 k1'.lt
     replace k2:=k2.below hb5 k2.lt
     replace hb0:=Za hb0 hb5
     clear hb5 c1
     have c1:=k1'.cell
     have f1:=k1'.frozen
     go_wp2_with fail
     have hg:=Zr (w:=w5) (g:=w.heap.size) (.int .u64 (z.a:Int)) (.int .u64 (z.b:Int)) (.int .u64 (z.c:Int))
     have kz:=ZG k1' (.int .u64 (z.a:Int)) (.int .u64 (z.b:Int)) (.int .u64 (z.c:Int))
     replace k2:=k2.grown hg (fun e=>by have:=Option.some.inj e;omega)
     replace hb0:=hb0.trans (Ze hg hb0.size (Nat.le_refl _))
     clear hg c1 f1 k1'
     generalize ((World.setCell w5 _ _).setCell _ _).setCell _ _=Wf at kz k2 hb0 ⊢
     go_roundw
     case rel=>exact ⟨r+1,by omega,by go_num,by rw [HT.out];exact kz,k2,hb0⟩
     case measure=>simp [intOf];omega
  ·obtain rfl:r=8:=by omega
   obtain ⟨q,hq⟩:∃ q,q=Ym p s 8:=⟨_,rfl⟩
   rw [←hq] at k1
   have HQ:=Lib.hid hq
   clear hq
   have k1':Blk wr w.heap.size 80 #[.int .u64 (q.a:Int), .int .u64 (q.b:Int), .int .u64 (q.c:Int)]:=k1
   have c1:=k1'.cell
   have c2:=k2.cell
   have f2:=k2.frozen
   go_wp2_with fail
   have hg:=Zr (w:=wr) (g:=w.heap.size+1) (.int .u64 (q.a:Int)) (.int .u64 (q.b:Int)) (.int .u64 (q.c:Int))
   have kz:=ZG k2 (.int .u64 (q.a:Int)) (.int .u64 (q.b:Int)) (.int .u64 (q.c:Int))
   clear c1 c2 f2 k2
   generalize ((World.setCell wr _ _).setCell _ _).setCell _ _=Wf at hg kz ⊢
   have cz:=kz.cell
   have hs:=hb0.size
   exact bodyPost_ret (v:=.agg #[.int .u64 (q.a:Int), .int .u64 (q.b:Int), .int .u64 (q.c:Int)]) (by simp [results,Try.results57,go_sem,cz]) rfl ⟨by rw [←HQ.out];rfl,hb0.trans (Ze hg hs (by omega))⟩
end Go.Proofs.Ytbiieaiahdihnaa
