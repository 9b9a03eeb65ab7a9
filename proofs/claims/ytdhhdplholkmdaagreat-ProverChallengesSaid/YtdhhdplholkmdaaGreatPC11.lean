/- A part of the proof. No condition. -/
import Derived.Test.YtdhhdplholkmdaaGreatProg
import Derived.Test.YtdhhdplholkmdaaGreatPC8
import Derived.Test.YtdhhdplholkmdaaGreatPC10

namespace Go.Proofs.YtdhhdplholkmdaaGreat
open Go.RowKit
set_option maxRecDepth 100000 in
set_option maxHeartbeats 1000000 in
theorem zDc (p a e:Nat) (w:World) (hp:okP p=true) (he:e<18446744073709551616) :
  Calls Tryz.prog 258 #[.int .u64 p, .int .u64 a, .int .u64 e] w fun e' w'=>e'= .returned (.int .u64 ((a^e%p:Nat):Int))∧Below w.heap.size w w':=by
 obtain ⟨hp1,hp2⟩:=Z5 hp
 have HO:=Lib.hid (fun w=>by have:=Yk p w hp2;rw [hp] at this;exact this)
 have HM:=Lib.hid (fun a b w=>JV p a b w hp)
 obtain ⟨n,hn⟩:∃ n,n=a^e%p:=⟨_,rfl⟩
 rw [←hn]
 have HI:=Lib.hid (show 1*(a%p)^e%p=n by rw [Nat.one_mul,←Nat.pow_mod,hn])
 have HP:=Lib.hid hp1
 have p1:(0:Int)<(p:Int):=by omega
 have e1:(a:Int)%(p:Int)=((a%p:Nat):Int):=rfl
 have e2:(a:Int).tmod (p:Int)=((a%p:Nat):Int):=rfl
 have p3:¬(p=0):=by omega
 clear hn hp hp1 hp2
 generalize a%p=a0 at *
 go_enter Tryz.func258,Tryz.ntmps258
 go_wp2_with fail
 refine (HO.out _).mono ?_
 rintro e' w1 ⟨rfl,hb0⟩
 go_wp2_with fail
 clear e1 e2
 go_loopw [1,2,7] (fun x y z wr=>∃ a' e' r:Nat,x= .int .u64 (a':Int)∧y= .int .u64 (e':Int)∧z= .int .u64 (r:Int)∧r<p∧e'<18446744073709551616∧Hid (r*a'^e'%p=n)∧Below w.heap.size w wr) (fun _ y _ _=>(intOf y).toNat)
 case atStart=>exact ⟨a0,e,1,rfl,rfl,rfl,by have:=HP.out;omega,he,HI.out,hb0⟩
 case round =>
  clear hb0
  obtain ⟨a',e',r,rfl,rfl,rfl,hr',he',H,hbr⟩:=hrel
  by_cases h0:e'=0
  ·subst h0
   have HE:=Lib.hid (show r=n by have:=H.out;rw [Nat.pow_zero,Nat.mul_one,Nat.mod_eq_of_lt hr'] at this;exact this)
   go_wp2
   go_ret
   exact ⟨by rw [HE.out];rfl,hbr⟩
  ·have g1:(0:Int)<(e':Int):=by omega
   obtain ⟨f,hf⟩:∃ f,f=e' / 2:=⟨_,rfl⟩
   have e1:(e':Int) / 2=(f:Int):=by omega
   have e2:(e':Int).tdiv 2=(f:Int):=by rw [Int.tdiv_eq_ediv_of_nonneg (by omega)];exact e1
   have HQ:=Lib.hid (fun w=>HM.out a' a' w)
   rcases (show e'%2=1∨e'%2=0 by omega) with hodd | hodd
   ·have eb:(e':Int)%2=1:=by omega
    have ec:(e':Int).tmod 2=1:=by rw [Int.tmod_eq_emod_of_nonneg (by omega)];exact eb
    have HF:=Lib.hid hf
    have HM1:=Lib.hid (fun w=>HM.out r a' w)
    have HX:=zAm p r a' e' n H.out hodd
    rw [←hf] at HX
    have hs2:r*a'%p<p:=Nat.mod_lt _ (by have:=HP.out;omega)
    generalize r*a'%p=s at *
    generalize a'*a'%p=q at *
    replace HX:=Lib.hid HX
    clear hodd hf
    go_wp2_with fail
    refine (HM1.out _).mono ?_
    rintro e w1 ⟨rfl,hb1⟩
    replace hbr:=XH hbr hb1 hbr.size
    clear hb1
    go_wp2_with fail
    refine (HQ.out _).mono ?_
    rintro e w2 ⟨rfl,hb2⟩
    replace hbr:=XH hbr hb2 hbr.size
    go_wp2
    go_roundw
    case rel=>exact ⟨q,f,s,rfl,rfl,rfl,hs2,by have:=HF.out;omega,HX.out,hbr⟩
    case measure=>have:=HF.out;simp [intOf];omega
   ·have eb:(e':Int)%2=0:=by omega
    have ec:(e':Int).tmod 2=0:=by rw [Int.tmod_eq_emod_of_nonneg (by omega)];exact eb
    have HF:=Lib.hid hf
    have HX:=xz p r a' e' n H.out hodd
    rw [←hf] at HX
    generalize a'*a'%p=q at *
    replace HX:=Lib.hid HX
    clear hodd hf
    go_wp2_with fail
    refine (HQ.out _).mono ?_
    rintro e w2 ⟨rfl,hb2⟩
    replace hbr:=XH hbr hb2 hbr.size
    go_wp2
    go_roundw
    case rel=>exact ⟨q,f,r,rfl,rfl,rfl,hr',by have:=HF.out;omega,HX.out,hbr⟩
    case measure=>have:=HF.out;simp [intOf];omega
theorem zD7 {w:World} {a b c:Value}:(Instr.index 240 (.agg #[a,b,c]) (.int .i64 2)).run Tryz.prog w= .ok c w :=
 Vm (i:=2) Tryz.underlying240 yB GW (by omega) rfl
set_option maxRecDepth 100000 in
set_option maxHeartbeats 400000 in
theorem zDo (p:Nat) (w:World) (hp:okP p=true) :
  Calls Tryz.prog 265 #[.int .u64 p] w fun e w'=>e= .returned (.int .u64 ((Xh p).2.2:Int))∧Below w.heap.size w w':=by
 have HR:=Lib.hid (zAl p w (Z5 hp).2)
 clear hp
 unfold Gz at HR
 generalize (Xh p).1=a at *
 generalize (Xh p).2.1=b at *
 generalize (Xh p).2.2=c at *
 go_enter Tryz.func265,Tryz.ntmps265
 go_wp2_with (go_at_call 152;refine HR.out.mono ?_;rintro e w1 ⟨rfl,hb⟩)
 rw [zD7,Result.andThen,Oper.upon_value]
 go_wp2
 go_ret
 exact ⟨rfl,hb⟩
def sumP (p:Nat) (l:List Nat):Nat:=l.foldl (fun s x=>(s+x)%p) 0
set_option maxRecDepth 100000 in
set_option maxHeartbeats 400000 in
theorem zC7 (p:Nat) (A:Option Addr) (n c:Nat) (l:List Nat) (w:World) (hp:okP p=true) (hl:RWd w [.slice A n c] l) :
  Calls Tryz.prog 294 #[.int .u64 p, .slice A n c] w fun e w'=>e= .returned (.int .u64 (sumP p l:Int))∧Below w.heap.size w w':=by
 obtain ⟨rfl,h1,h2,hlt,hrd⟩:=YY hl
 have gm:=Vf h1 h2
 have HA:=Lib.hid (fun a b w=>Ul p a b w hp)
 have HS:=Lib.hid (show sumP p l=l.foldl (fun s x=>(s+x)%p) 0 from rfl)
 rw [HS.out]
 clear HS hl h1 h2 hp hlt
 go_enter Tryz.func294,Tryz.ntmps294
 go_wp2_with fail
 go_loopw [5,6] (fun y i wr=>∃ k:Nat,k≤l.length∧i= .int .i64 (k:Int)∧y= .int .u64 (((l.take k).foldl (fun s x=>(s+x)%p) 0:Nat):Int)∧Below w.heap.size w wr) (fun _ i _=>l.length-(intOf i).toNat)
 case atStart=>exact ⟨0,Nat.zero_le _,rfl,rfl,Below.refl _ _⟩
 case round =>
  obtain ⟨k,hk,rfl,rfl,hbr⟩:=hrel
  by_cases hlt:k<l.length
  ·obtain ⟨b,q,rfl,hbl,hc⟩:=Vl (hrd.below hbr) hlt
   have HF:=Lib.hid (zEv (fun s x=>(s+x)%p) 0 l k hlt)
   generalize l.getD k 0=y at *
   generalize (l.take k).foldl (fun s x=>(s+x)%p) 0=s at *
   have HA1:=Lib.hid (fun w=>HA.out s y w)
   have HF2:=Lib.hid (show (l.take (k+1)).foldl (fun s x=>(s+x)%p) 0=(s+y)%p from HF.out)
   clear HF
   generalize (s+y)%p=z at *
   have g1:(0:Int)≤(k:Int):=by omega
   have g2:(k:Int)<(l.length:Int):=by omega
   go_wp2_with fail
   refine (HA1.out _).mono ?_
   rintro e w1 ⟨rfl,hb1⟩
   replace hbr:=XH hbr hb1 hbr.size
   clear hc hb1
   go_wp2
   go_roundw
   case rel=>exact ⟨k+1,by omega,by go_num,by rw [HF2.out],hbr⟩
   case measure=>simp [intOf];omega
  ·obtain rfl:k=l.length:=by omega
   rw [List.take_length]
   go_wp2
   go_ret
   exact ⟨rfl,hbr⟩
set_option maxRecDepth 100000 in
set_option maxHeartbeats 400000 in
theorem jX (p r i:Nat) (w:World) (hp:okP p=true) (hr:r<8) (hi:i<3) :
  Calls Tryz.prog 264 #[.int .u64 p, .int .i64 (r:Int), .int .i64 (i:Int)] w fun e w'=>e= .returned (.int .u64 (VM p r i:Int))∧Below w.heap.size w w':=by
 obtain ⟨hp1,hp2⟩:=Z5 hp
 have HO:=Lib.hid (fun w=>by have:=Yk p w hp2;rw [hp] at this;exact this)
 have HC:=Lib.hid (show VM p r i=Kd (3*r+i+1)%p from rfl)
 rw [HC.out]
 clear HC hp
 obtain ⟨k,hk⟩:∃ k,k=3*r+i+1:=⟨_,rfl⟩
 rw [←hk]
 have g1:(r:Int)≤7:=by omega
 have g2:(i:Int)≤2:=by omega
 have e1:3*(r:Int)+(i:Int)+1=(k:Int):=by omega
 have e2:IntKind.u64.wrap (k:Int)=(k:Int):=Y6 _ (by omega)
 have e3:IntKind.u64.wrap ((k:Int)*11400714819323198485)=(Kd k:Int):=by
  rw [IntKind.wrap_u64]
  have:((k:Int)*11400714819323198485)=((k*11400714819323198485:Nat):Int):=by rw [Int.natCast_mul];rfl
  rw [this]
  rfl
 have e4:(Kd k:Int)%(p:Int)=((Kd k%p:Nat):Int):=rfl
 have e5:(Kd k:Int).tmod (p:Int)=((Kd k%p:Nat):Int):=rfl
 have p1:(0:Int)<(p:Int):=by omega
 have p3:¬(p=0):=by omega
 clear hk hr hi
 generalize Kd k%p=m at *
 generalize Kd k=z at *
 go_enter Tryz.func264,Tryz.ntmps264
 go_wp2_with fail
 refine (HO.out _).mono ?_
 rintro e w1 ⟨rfl,hb⟩
 go_wp2
 go_ret
 exact ⟨rfl,hb⟩
def zH (f:Nat→Nat) (s:St):Nat→St
 | 0=>⟨0,0,0⟩
 | 1=>⟨f s.a,0,0⟩
 | 2=>⟨f s.a,f s.b,0⟩
 | _=>⟨f s.a,f s.b,f s.c⟩
theorem zDq (f:Nat→Nat) (s:St) {i:Nat} (h:i<3):(zH f s i).cs.setIfInBounds i (.int .u64 (f (s.at_ i):Int))=(zH f s (i+1)).cs:=by
 rcases (show i=0∨i=1∨i=2 by omega) with rfl | rfl | rfl <;> simp [zH,St.cs,St.at_]
theorem sum3 (p:Nat) (s:St):sumP p [s.a,s.b,s.c]=Xm p s:=by
 simp [sumP,Xm]
theorem St.lit (s:St):(U64 [s.a,s.b,s.c]).toArray=s.cs:=rfl
set_option maxRecDepth 100000 in
set_option maxHeartbeats 1000000 in
theorem zD3 (p:Nat) (s:St) (w:World) (hp:okP p=true) (hs:s.ok) :
  Calls Tryz.prog 266 #[.int .u64 p,s.val] w fun e w'=>e= .returned (yD p s).val∧Below w.heap.size w w':=by
 have HA:=Lib.hid (fun a b w=>Ul p a b w hp)
 have HR:=Lib.hid (show yD p s=zH (fun x=>(x+Xm p s)%p) s 3 from rfl)
 rw [HR.out]
 obtain ⟨k1,k2,k3,hb0,hsz⟩:=Ks w 240 240 22 #[.int .u64 (s.a:Int), .int .u64 (s.b:Int), .int .u64 (s.c:Int)] #[.int .u64 0, .int .u64 0, .int .u64 0] #[.int .u64 (s.a:Int), .int .u64 (s.b:Int), .int .u64 (s.c:Int)]
 have hlist:RWd _ [.slice (some ⟨w.heap.size+1+1,0,none⟩) 3 3] [s.a,s.b,s.c]:=zAa (l:=[s.a,s.b,s.c]) k3 (fun x hx=>by
  simp at hx
  rcases hx with rfl | rfl | rfl
  ·exact hs.1
  ·exact hs.2.1
  ·exact hs.2.2) (by simp [maxLen])
 have HSM:=Lib.hid (zC7 p _ 3 3 [s.a,s.b,s.c] _ hp hlist)
 rw [sum3] at HSM
 clear HR hlist hp hs k3
 generalize hm:Xm p s=m at *
 clear hm
 have ev:s.val= .agg #[.int .u64 (s.a:Int), .int .u64 (s.b:Int), .int .u64 (s.c:Int)]:=rfl
 rw [ev]
 clear ev
 go_enter Tryz.func266,Tryz.ntmps266
 go_wp2_with fail
 generalize ((w.alloc _).alloc _).alloc _=w0 at k1 k2 hb0 hsz HSM ⊢
 refine HSM.out.mono ?_
 rintro e w1 ⟨rfl,hb1⟩
 replace k1:=k1.below hb1 k1.lt
 replace k2:=k2.below hb1 k2.lt
 replace hb0:=Za hb0 hb1
 have hs1:=hb1.size
 clear hb1 HSM
 have hal:=(Below.refl w1.heap.size w1).alloc (Nat.le_refl _) (.cells #[.int .u64 0, .int .u64 0, .int .u64 0] 240)
 have k4:=Blk.new w1 240 #[.int .u64 0, .int .u64 0, .int .u64 0]
 replace k1:=k1.below hal k1.lt
 replace k2:=k2.below hal k2.lt
 replace hb0:=Za hb0 hal
 have hgl:w.heap.size+1<w1.heap.size:=by omega
 clear hal
 go_upto_block 0 with fail
 generalize w1.alloc _=w2 at k1 k2 k4 hb0 ⊢
 generalize w1.heap.size=g at k4 hgl ⊢
 clear hs1
 have k4':Blk w2 g 240 (zH (fun x=>(x+m)%p) s 0).cs:=k4
 have k1':Blk w2 w.heap.size 240 s.cs:=k1
 clear k1 k4
 go_wp2_with fail
 go_loopw [7] (fun i wr=>∃ k:Nat,k≤3∧i= .int .i64 (k:Int)∧Blk wr w.heap.size 240 s.cs∧Blk wr (w.heap.size+1) 240 #[.int .u64 0, .int .u64 0, .int .u64 0]∧Blk wr g 240 (zH (fun x=>(x+m)%p) s k).cs∧Below w.heap.size w wr) (fun i _=>3-(intOf i).toNat)
 case atStart=>exact ⟨0,Nat.zero_le _,rfl,k1',k2,k4',hb0⟩
 case round =>
  clear k1' k2 k4' hb0
  obtain ⟨k,hk,rfl,k1,k2,k4,hb0⟩:=hrel
  by_cases hlt:k<3
  ·have g1:(k:Int)<3:=by omega
   have cm:=k1.cell k
   rw [St.cs_at _ hlt] at cm
   obtain ⟨y,hy⟩:∃ y,y=(s.at_ k+m)%p:=⟨_,rfl⟩
   have HSET:=Lib.hid (show (zH (fun x=>(x+m)%p) s k).cs.setIfInBounds k (.int .u64 (y:Int))=(zH (fun x=>(x+m)%p) s (k+1)).cs from by rw [hy];exact zDq (fun x=>(x+m)%p) s hlt)
   have HA1:=Lib.hid (fun w=>HA.out (s.at_ k) m w)
   rw [←hy] at HA1
   clear hy
   have cz:=k4.cell k
   rw [St.cs_at _ hlt] at cz
   generalize (zH (fun x=>(x+m)%p) s k).at_ k=old at cz
   generalize s.at_ k=x at *
   go_wp2_with fail
   refine (HA1.out _).mono ?_
   rintro e w3 ⟨rfl,hb3⟩
   have cz3:w3.cell? ⟨g,k,none⟩=some (.int .u64 (old:Int)):=(Below.cell hb3 (World.block_lt_of_cell? _ _ cz)).trans cz
   replace k1:=k1.below hb3 k1.lt
   replace k2:=k2.below hb3 k2.lt
   replace k4:=k4.below hb3 k4.lt
   replace hb0:=Za hb0 hb3
   have f4:=k4.frozen k
   clear cz cm hb3
   go_wp2_with fail
   have hg:w3.grownBy (w3.setCell ⟨g,k,none⟩ (.int .u64 (y:Int))) (some g):=ZF (p:=⟨g,k,none⟩) (ZO w3 _) (.inl rfl) _
   replace k4:=k4.set_ k (.int .u64 (y:Int))
   rw [HSET.out] at k4
   replace k1:=k1.grown hg (fun e=>by have:=Option.some.inj e;omega)
   replace k2:=k2.grown hg (fun e=>by have:=Option.some.inj e;omega)
   replace hb0:=hb0.trans (Zv hg hb0.size (by omega))
   clear hg f4 cz3
   generalize w3.setCell _ _=Wf at k1 k2 k4 hb0 ⊢
   go_roundw
   case rel=>exact ⟨k+1,by omega,by go_num,k1,k2,k4,hb0⟩
   case measure=>simp [intOf];omega
  ·obtain rfl:k=3:=by omega
   obtain ⟨q,hq⟩:∃ q,q=zH (fun x=>(x+m)%p) s 3:=⟨_,rfl⟩
   rw [←hq] at k4
   have HQ:=Lib.hid hq
   clear hq
   have k4':Blk wr g 240 #[.int .u64 (q.a:Int), .int .u64 (q.b:Int), .int .u64 (q.c:Int)]:=k4
   have c4:=k4'.cell
   have c2:=k2.cell
   have f2:=k2.frozen
   go_wp2_with fail
   have hg:=Yh (w:=wr) (g:=w.heap.size+1) (.int .u64 (q.a:Int)) (.int .u64 (q.b:Int)) (.int .u64 (q.c:Int))
   have kz:=YS k2 (.int .u64 (q.a:Int)) (.int .u64 (q.b:Int)) (.int .u64 (q.c:Int))
   clear c4 c2 f2 k2
   generalize ((World.setCell wr _ _).setCell _ _).setCell _ _=Wf at hg kz ⊢
   have cz:=kz.cell
   have hs:=hb0.size
   exact bodyPost_ret (v:=.agg #[.int .u64 (q.a:Int), .int .u64 (q.b:Int), .int .u64 (q.c:Int)]) (by simp [results,Tryz.results266,go_sem,cz]) rfl ⟨by rw [←HQ.out];rfl,hb0.trans (Zv hg hs (by omega))⟩
theorem St.ok_of_lt {s:St} {p:Nat} (hp:p<18446744073709551616) (h1:s.a<p) (h2:s.b<p) (h3:s.c<p):s.ok:=⟨by omega,by omega,by omega⟩
theorem zDu {p:Nat} (h1:0<p) (r i x:Nat):VX p r i x<p:=Nat.mod_lt _ h1
set_option maxRecDepth 100000 in
set_option maxHeartbeats 1000000 in
theorem yP (p:Nat) (s:St) (w:World) (hp:okP p=true) :
  Calls Tryz.prog 220 #[.int .u64 p,s.val] w fun e w'=>e= .returned (Uj p s).val∧Below w.heap.size w w':=by
 obtain ⟨hp1,hp2⟩:=Z5 hp
 have HV:=Lib.hid (fun w=>by have:=Yk p w hp2;rw [hp] at this;exact this)
 have HE:=Lib.hid (fun w=>zDo p w hp)
 have HC:=Lib.hid (fun r i w hr hi=>jX p r i w hp hr hi)
 have HA:=Lib.hid (fun a b w=>Ul p a b w hp)
 have HP:=Lib.hid (fun a n w hn=>zDc p a n w hp hn)
 have HM:=Lib.hid (fun s w h=>zD3 p s w hp h)
 have HSO:=Lib.hid (show ∀ (f:Nat→Nat→Nat) (t:St),(∀ i x,f i x<p)→(Gg f t 3).ok from fun f t h=>St.ok_of_lt hp2 (h 0 _) (h 1 _) (h 2 _))
 have HSL:=Lib.hid (show ∀ r i x,VX p r i x<p from fun r i x=>zDu (by omega) r i x)
 have hel:=(jJ hp).2
 have HSB:=Lib.hid (show ∀ r i x,VX p r i x=((x+VM p r i)%p)^(Xh p).2.2%p from fun _ _ _=>rfl)
 clear hp hp1 hp2
 generalize (Xh p).2.2=ex at *
 have HEL:=Lib.hid hel
 clear hel
 obtain ⟨k1,k2,hb0,hsz⟩:=Xn w 240 240 #[.int .u64 (s.a:Int), .int .u64 (s.b:Int), .int .u64 (s.c:Int)] #[.int .u64 0, .int .u64 0, .int .u64 0]
 have HPO:=Lib.hid (show (Uj p s).val=(XG p s 8).val from rfl)
 rw [HPO.out]
 clear HPO
 have ev:s.val= .agg #[.int .u64 (s.a:Int), .int .u64 (s.b:Int), .int .u64 (s.c:Int)]:=rfl
 rw [ev]
 clear ev
 go_enter Tryz.func220,Tryz.ntmps220
 go_wp2_with fail
 generalize (w.alloc _).alloc _=w0 at k1 k2 hb0 hsz ⊢
 refine (HV.out _).mono ?_
 rintro e w2 ⟨rfl,hb2⟩
 replace k1:Blk w2 w.heap.size 240 (XG p s 0).cs:=k1.below hb2 k1.lt
 replace k2:=k2.below hb2 k2.lt
 replace hb0:=Za hb0 hb2
 clear hb2 hsz HV
 go_wp2_with fail
 go_loopw [5] (fun i wr=>∃ r:Nat,r≤8∧i= .int .i64 (r:Int)∧Blk wr w.heap.size 240 (XG p s r).cs∧Blk wr (w.heap.size+1) 240 #[.int .u64 0, .int .u64 0, .int .u64 0]∧Below w.heap.size w wr) (fun i _=>8-(intOf i).toNat)
 case atStart=>exact ⟨0,Nat.zero_le _,rfl,k1,k2,hb0⟩
 case round =>
  clear k1 k2 hb0
  obtain ⟨r,hr,rfl,k1,k2,hb0⟩:=hrel
  by_cases hlt:r<8
  ·have g1:(r:Int)<8:=by omega
   obtain ⟨t,ht⟩:∃ t,t=XG p s r:=⟨_,rfl⟩
   rw [←ht] at k1
   have HT:=Lib.hid (show XG p s (r+1)=yD p (Gg (VX p r) t 3) by rw [XG,←ht];rfl)
   clear ht
   go_wp2_with fail
   go_loopw [6] (fun i wr=>∃ m:Nat,m≤3∧i= .int .i64 (m:Int)∧Blk wr w.heap.size 240 (Gg (VX p r) t m).cs∧Blk wr (w.heap.size+1) 240 #[.int .u64 0, .int .u64 0, .int .u64 0]∧Below w.heap.size w wr) (fun i _=>3-(intOf i).toNat)
   case atStart=>exact ⟨0,Nat.zero_le _,rfl,k1,k2,hb0⟩
   case round =>
    clear k1 k2 hb0
    obtain ⟨m,hm,rfl,k1,k2,hb0⟩:=hrel
    by_cases hlt2:m<3
    ·have g2:(m:Int)<3:=by omega
     have cm:=k1.cell m
     rw [St.cs_at _ hlt2,zA4 _ _ hlt2] at cm
     have HSET:=Lib.hid (jb (VX p r) t hlt2)
     have HSV:=Lib.hid (HSB.out r m (t.at_ m))
     have HC1:=Lib.hid (fun w=>HC.out r m w hlt hlt2)
     have HA1:=Lib.hid (fun w=>HA.out (t.at_ m) (VM p r m) w)
     have HP1:=Lib.hid (fun w=>HP.out ((t.at_ m+VM p r m)%p) ex w HEL.out)
     rw [←HSV.out] at HP1
     clear HSV
     generalize VX p r m (t.at_ m)=sv at *
     generalize (t.at_ m+VM p r m)%p=av at *
     generalize VM p r m=cv at *
     generalize t.at_ m=xv at *
     have l1:=k1.lt
     go_wp2_with fail
     refine Z8 (Yj) (later_moves) [15] [15] [0,1,2,3,4,5,6,7,8,9,10,11,12,13,14,15] (by kernel_rfl) (by kernel_rfl) ?_
     refine Z9 (later_moves) ?_
     intro Wc hacc
     repeat (first | (refine Zr (later_moves) rfl rfl rfl rfl (fun _ _ _ h=>h) ?_;simp only [Act.put,zLa,zLb,zLc]) | (refine Zk (v:=?_) (later_moves) rfl rfl rfl rfl (fun _ _ _ h=>h) ?_ ?_;rotate_left;(· (intro w' hR;(first | have hcells:=Zd ((later_moves).trans _ _ _ hacc hR) | skip);go_simp;try with_reducible rfl));simp only [Act.put,zLa,zLb,zLc]) | (refine ZE (v:=?_) rfl rfl rfl rfl (fun _ _ _ h=>h) ?_ ?_;rotate_left;(· (intro w';go_simp;try with_reducible rfl));simp only [Act.put,zLa,zLb,zLc]))
     refine ZK (later_moves) rfl rfl rfl rfl (fun _ _ _ h=>h) (fun _=>by go_simp <;> rfl) (fun w' hR=>HC1.out _) ?_
     simp only [Act.put,zLa,zLb,zLc]
     repeat (first | (refine Zr (later_moves) rfl rfl rfl rfl (fun _ _ _ h=>h) ?_;simp only [Act.put,zLa,zLb,zLc]) | (refine Zk (v:=?_) (later_moves) rfl rfl rfl rfl (fun _ _ _ h=>h) ?_ ?_;rotate_left;(· (intro w' hR;(first | have hcells:=Zd ((later_moves).trans _ _ _ hacc hR) | skip);go_simp;try with_reducible rfl));simp only [Act.put,zLa,zLb,zLc]) | (refine ZE (v:=?_) rfl rfl rfl rfl (fun _ _ _ h=>h) ?_ ?_;rotate_left;(· (intro w';go_simp;try with_reducible rfl));simp only [Act.put,zLa,zLb,zLc]))
     refine ZK (later_moves) rfl rfl rfl rfl (fun _ _ _ h=>h) (fun _=>by go_simp <;> rfl) (fun w' hR=>HA1.out _) ?_
     simp only [Act.put,zLa,zLb,zLc]
     repeat (first | (refine Zr (later_moves) rfl rfl rfl rfl (fun _ _ _ h=>h) ?_;simp only [Act.put,zLa,zLb,zLc]) | (refine Zk (v:=?_) (later_moves) rfl rfl rfl rfl (fun _ _ _ h=>h) ?_ ?_;rotate_left;(· (intro w' hR;(first | have hcells:=Zd ((later_moves).trans _ _ _ hacc hR) | skip);go_simp;try with_reducible rfl));simp only [Act.put,zLa,zLb,zLc]) | (refine ZE (v:=?_) rfl rfl rfl rfl (fun _ _ _ h=>h) ?_ ?_;rotate_left;(· (intro w';go_simp;try with_reducible rfl));simp only [Act.put,zLa,zLb,zLc]))
     refine ZK (later_moves) rfl rfl rfl rfl (fun _ _ _ h=>h) (fun _=>by go_simp <;> rfl) (fun w' hR=>HE.out _) ?_
     simp only [Act.put,zLa,zLb,zLc]
     repeat (first | (refine Zr (later_moves) rfl rfl rfl rfl (fun _ _ _ h=>h) ?_;simp only [Act.put,zLa,zLb,zLc]) | (refine Zk (v:=?_) (later_moves) rfl rfl rfl rfl (fun _ _ _ h=>h) ?_ ?_;rotate_left;(· (intro w' hR;(first | have hcells:=Zd ((later_moves).trans _ _ _ hacc hR) | skip);go_simp;try with_reducible rfl));simp only [Act.put,zLa,zLb,zLc]) | (refine ZE (v:=?_) rfl rfl rfl rfl (fun _ _ _ h=>h) ?_ ?_;rotate_left;(· (intro w';go_simp;try with_reducible rfl));simp only [Act.put,zLa,zLb,zLc]))
     refine ZK (later_moves) rfl rfl rfl rfl (fun _ _ _ h=>h) (fun _=>by go_simp <;> rfl) (fun w' hR=>HP1.out _) ?_
     simp only [Act.put,zLa,zLb,zLc]
     repeat (first | (refine Zr (later_moves) rfl rfl rfl rfl (fun _ _ _ h=>h) ?_;simp only [Act.put,zLa,zLb,zLc]) | (refine Zk (v:=?_) (later_moves) rfl rfl rfl rfl (fun _ _ _ h=>h) ?_ ?_;rotate_left;(· (intro w' hR;(first | have hcells:=Zd ((later_moves).trans _ _ _ hacc hR) | skip);go_simp;try with_reducible rfl));simp only [Act.put,zLa,zLb,zLc]) | (refine ZE (v:=?_) rfl rfl rfl rfl (fun _ _ _ h=>h) ?_ ?_;rotate_left;(· (intro w';go_simp;try with_reducible rfl));simp only [Act.put,zLa,zLb,zLc]))
     refine Yr rfl rfl rfl rfl ?_
     intro wh hRh
     replace hacc:=(later_moves).trans _ _ _ hacc hRh
     replace k1:=k1.drew.below hacc k1.lt
     replace k2:=k2.drew.below hacc k2.lt
     replace hb0:=Za hb0.drew hacc
     have f1:=k1.frozen m
     have cm2:wh.cell? ⟨w.heap.size,m,none⟩=some (.int .u64 (xv:Int)):=G1 hacc cm
     clear l1 cm
     go_simp
     refine ⟨fun h=>Bool.noConfusion h,?_⟩
     have hg:wh.grownBy (wh.setCell ⟨w.heap.size,m,none⟩ (.int .u64 (sv:Int))) (some w.heap.size):=ZF (p:=⟨w.heap.size,m,none⟩) (ZO wh _) (.inl rfl) _
     replace k1:=k1.set_ m (.int .u64 (sv:Int))
     rw [HSET.out] at k1
     replace k2:=k2.grown hg (fun e=>by have:=Option.some.inj e;omega)
     replace hb0:=hb0.trans (Zv hg hb0.size (Nat.le_refl _))
     clear hg f1 cm2
     generalize wh.setCell _ _=Wf at k1 k2 hb0 ⊢
     refine YB rfl ?_
     go_wp2
     go_roundw
     case rel=>exact ⟨m+1,by omega,by go_num,k1,k2,hb0⟩
     case measure=>simp [intOf];omega
    ·obtain rfl:m=3:=by omega
     obtain ⟨q,hq⟩:∃ q,q=Gg (VX p r) t 3:=⟨_,rfl⟩
     have hqo:q.ok:=by rw [hq];exact HSO.out _ _ (HSL.out r)
     rw [←hq] at k1 HT
     clear hq
     have k1':Blk wr w.heap.size 240 #[.int .u64 (q.a:Int), .int .u64 (q.b:Int), .int .u64 (q.c:Int)]:=k1
     obtain ⟨z,hz⟩:∃ z,z=yD p q:=⟨_,rfl⟩
     rw [←hz] at HT
     have HM1:=Lib.hid (show ∀ w,Calls Tryz.prog 266 #[.int .u64 p, .agg #[.int .u64 (q.a:Int), .int .u64 (q.b:Int), .int .u64 (q.c:Int)]] w fun e w'=>e= .returned (.agg #[.int .u64 (z.a:Int), .int .u64 (z.b:Int), .int .u64 (z.c:Int)])∧Below w.heap.size w w' from fun w=>by rw [hz];exact HM.out q w hqo)
     clear hz k1 hqo
     have c1:=k1'.cell
     go_wp2_with fail
     refine (HM1.out _).mono ?_
     rintro e w5 ⟨rfl,hb5⟩
     replace k1':=k1'.below hb5 k1'.lt
     replace k2:=k2.below hb5 k2.lt
     replace hb0:=Za hb0 hb5
     clear hb5 c1
     have c1:=k1'.cell
     have f1:=k1'.frozen
     go_wp2_with fail
     have hg:=Yh (w:=w5) (g:=w.heap.size) (.int .u64 (z.a:Int)) (.int .u64 (z.b:Int)) (.int .u64 (z.c:Int))
     have kz:=YS k1' (.int .u64 (z.a:Int)) (.int .u64 (z.b:Int)) (.int .u64 (z.c:Int))
     replace k2:=k2.grown hg (fun e=>by have:=Option.some.inj e;omega)
     replace hb0:=hb0.trans (Zv hg hb0.size (Nat.le_refl _))
     clear hg c1 f1 k1'
     generalize ((World.setCell w5 _ _).setCell _ _).setCell _ _=Wf at kz k2 hb0 ⊢
     go_roundw
     case rel=>exact ⟨r+1,by omega,by go_num,by rw [HT.out];exact kz,k2,hb0⟩
     case measure=>simp [intOf];omega
  ·obtain rfl:r=8:=by omega
   obtain ⟨q,hq⟩:∃ q,q=XG p s 8:=⟨_,rfl⟩
   rw [←hq] at k1
   have HQ:=Lib.hid hq
   clear hq
   have k1':Blk wr w.heap.size 240 #[.int .u64 (q.a:Int), .int .u64 (q.b:Int), .int .u64 (q.c:Int)]:=k1
   have c1:=k1'.cell
   have c2:=k2.cell
   have f2:=k2.frozen
   go_wp2_with fail
   have hg:=Yh (w:=wr) (g:=w.heap.size+1) (.int .u64 (q.a:Int)) (.int .u64 (q.b:Int)) (.int .u64 (q.c:Int))
   have kz:=YS k2 (.int .u64 (q.a:Int)) (.int .u64 (q.b:Int)) (.int .u64 (q.c:Int))
   clear c1 c2 f2 k2
   generalize ((World.setCell wr _ _).setCell _ _).setCell _ _=Wf at hg kz ⊢
   have cz:=kz.cell
   have hs:=hb0.size
   exact bodyPost_ret (v:=.agg #[.int .u64 (q.a:Int), .int .u64 (q.b:Int), .int .u64 (q.c:Int)]) (by simp [results,Tryz.results220,go_sem,cz]) rfl ⟨by rw [←HQ.out];rfl,hb0.trans (Zv hg hs (by omega))⟩
def Uw (p:Nat):List Nat→St→St
 | [],s=>s
 | [x],s=>Uj p ⟨(s.a+x)%p,s.b,s.c⟩
 | x :: y :: r,s=>Uw p r (Uj p ⟨(s.a+x)%p,(s.b+y)%p,s.c⟩)
def X8 (p label:Nat) (l:List Nat):St:=Uw p l ⟨0,0,(label*65536%p+l.length)%p⟩
theorem zm {l:List Nat} {i:Nat} (h:i+1<l.length):l.drop i=l.getD i 0 :: l.getD (i+1) 0 :: l.drop (i+2):=by
 rw [List.drop_eq_getElem_cons (by omega),List.drop_eq_getElem_cons h,List.getD_eq_getElem?_getD,List.getD_eq_getElem?_getD,List.getElem?_eq_getElem h,List.getElem?_eq_getElem (show i<l.length by omega)]
 rfl
theorem Gt {l:List Nat} {i:Nat} (h:i+1=l.length):l.drop i=[l.getD i 0]:=by
 rw [List.drop_eq_getElem_cons (by omega),List.getD_eq_getElem?_getD,List.getElem?_eq_getElem (show i<l.length by omega),List.drop_of_length_le (by omega)]
 rfl
set_option maxRecDepth 100000 in
set_option maxHeartbeats 1000000 in
theorem xB (p label:Nat) (A:Option Addr) (n c:Nat) (l:List Nat) (w:World) (hp:okP p=true) (hl:RWd w [.slice A n c] l) (hne:0<l.length) (hlen:l.length≤1000000) :
  Calls Tryz.prog 241 #[.int .u64 p, .int .u64 label, .slice A n c] w fun e w'=>e= .returned (X8 p label l).val∧Below w.heap.size w w':=by
 obtain ⟨rfl,h1,h2,hlt,hrd⟩:=YY hl
 have gm:=Vf h1 h2
 have HMu:=Lib.hid (fun w=>zDe p label 65536 w hp)
 have HA0:=Lib.hid (fun w=>VA p (label*65536%p) l.length w hp)
 have HA:=Lib.hid (fun a b w=>VA p a b w hp)
 have HP:=Lib.hid (fun s w=>yK p s w hp)
 have HF:=Lib.hid (show X8 p label l=Uw p (l.drop 0) ⟨0,0,(label*65536%p+l.length)%p⟩ from rfl)
 have ew:IntKind.u64.wrap (l.length:Int)=(l.length:Int):=Y6 _ (by omega)
 generalize X8 p label l=fin at *
 generalize (label*65536%p+l.length)%p=c0 at *
 generalize label*65536%p=m0 at *
 unfold fv at *
 clear hl h1 h2 hp
 have d0:((l.length:Int) == 0)=false:=by rw [beq_eq_false_iff_ne];omega
 obtain ⟨kr,kf,hb0,hsz⟩:=Xn w 240 248 #[.int .u64 0, .int .u64 0, .int .u64 0] #[.int .u64 (p:Int)]
 go_enter Tryz.func241,Tryz.ntmps241
 go_wp2_with fail
 generalize (w.alloc _).alloc _=w0 at kr kf hb0 hsz ⊢
 have cf:=kf.cell
 have lf:=kf.lt
 refine Z8 (Yj) (later_moves) [9,10] [10] [0,1,2,3,4,5,6,7,8,9,10] (by kernel_rfl) (by kernel_rfl) ?_
 refine Z9 (later_moves) ?_
 intro Wc hacc
 repeat (first | (refine Zr (later_moves) rfl rfl rfl rfl (fun _ _ _ h=>h) ?_;simp only [Act.put,zLa,zLb,zLc]) | (refine Zk (v:=?_) (later_moves) rfl rfl rfl rfl (fun _ _ _ h=>h) ?_ ?_;rotate_left;(· (intro w' hR;(first | have hcells:=Zd ((later_moves).trans _ _ _ hacc hR) | skip);go_simp;try with_reducible rfl));simp only [Act.put,zLa,zLb,zLc]) | (refine ZE (v:=?_) rfl rfl rfl rfl (fun _ _ _ h=>h) ?_ ?_;rotate_left;(· (intro w';go_simp;try with_reducible rfl));simp only [Act.put,zLa,zLb,zLc]))
 refine ZK (later_moves) rfl rfl rfl rfl (fun _ _ _ h=>h) (fun _=>by go_simp <;> rfl) (fun w' hR=>HMu.out _) ?_
 simp only [Act.put,zLa,zLb,zLc]
 repeat (first | (refine Zr (later_moves) rfl rfl rfl rfl (fun _ _ _ h=>h) ?_;simp only [Act.put,zLa,zLb,zLc]) | (refine Zk (v:=?_) (later_moves) rfl rfl rfl rfl (fun _ _ _ h=>h) ?_ ?_;rotate_left;(· (intro w' hR;(first | have hcells:=Zd ((later_moves).trans _ _ _ hacc hR) | skip);go_simp;try with_reducible rfl));simp only [Act.put,zLa,zLb,zLc]) | (refine ZE (v:=?_) rfl rfl rfl rfl (fun _ _ _ h=>h) ?_ ?_;rotate_left;(· (intro w';go_simp;try with_reducible rfl));simp only [Act.put,zLa,zLb,zLc]))
 refine ZK (later_moves) rfl rfl rfl rfl (fun _ _ _ h=>h) (fun _=>by go_simp <;> rfl) (fun w' hR=>HA0.out _) ?_
 simp only [Act.put,zLa,zLb,zLc]
 repeat (first | (refine Zr (later_moves) rfl rfl rfl rfl (fun _ _ _ h=>h) ?_;simp only [Act.put,zLa,zLb,zLc]) | (refine Zk (v:=?_) (later_moves) rfl rfl rfl rfl (fun _ _ _ h=>h) ?_ ?_;rotate_left;(· (intro w' hR;(first | have hcells:=Zd ((later_moves).trans _ _ _ hacc hR) | skip);go_simp;try with_reducible rfl));simp only [Act.put,zLa,zLb,zLc]) | (refine ZE (v:=?_) rfl rfl rfl rfl (fun _ _ _ h=>h) ?_ ?_;rotate_left;(· (intro w';go_simp;try with_reducible rfl));simp only [Act.put,zLa,zLb,zLc]))
 refine Yr rfl rfl rfl rfl ?_
 intro wh hRh
 replace hacc:=(later_moves).trans _ _ _ hacc hRh
 go_simp
 refine ⟨fun _=>(Below.refl _ _).alloc (Nat.le_refl _) _,?_⟩
 replace kr:=kr.drew.below hacc kr.lt
 replace kf:=kf.drew.below hacc kf.lt
 replace hb0:=Za hb0.drew hacc
 have hsw:w.heap.size+1<wh.heap.size:=kf.lt
 have hal:=(Below.refl wh.heap.size wh).alloc (Nat.le_refl _) (.cells #[.int .u64 0, .int .u64 0, .int .u64 0] 240)
 have ks:=Blk.new wh 240 #[.int .u64 0, .int .u64 0, .int .u64 0]
 replace kr:=kr.below hal kr.lt
 replace kf:=kf.below hal kf.lt
 replace hb0:=Za hb0 hal
 clear hacc hal cf lf hsz hRh
 try simp only [Act.put,zLa,zLb,zLc]
 generalize wh.alloc _=w2 at kr kf hb0 ks ⊢
 generalize wh.heap.size=g at ks hsw ⊢
 have hacc:=later_moves.refl w2
 refine Yr rfl rfl rfl rfl ?_
 intro wh hRh
 replace hacc:=(later_moves).trans _ _ _ hacc hRh
 replace kr:=kr.below hacc kr.lt
 replace kf:=kf.below hacc kf.lt
 replace ks:=ks.below hacc ks.lt
 replace hb0:=Za hb0 hacc
 have c2:=ks.cell
 have f2:=ks.frozen
 go_simp
 refine ⟨fun h=>Bool.noConfusion h,?_⟩
 have hg:=Yh (w:=wh) (g:=g) (.int .u64 0) (.int .u64 0) (.int .u64 (c0:Int))
 have kz:=YS ks (.int .u64 0) (.int .u64 0) (.int .u64 (c0:Int))
 replace kr:=kr.grown hg (fun e=>by have:=Option.some.inj e;omega)
 replace kf:=kf.grown hg (fun e=>by have:=Option.some.inj e;omega)
 replace hb0:=hb0.trans (Zv hg hb0.size (by omega))
 clear c2 f2 ks hg hacc hRh
 generalize ((World.setCell wh _ _).setCell _ _).setCell _ _=w4 at kz kr kf hb0 ⊢
 have ks:Blk w4 g 240 (St.mk 0 0 c0).cs:=kz
 clear kz
 refine YB rfl ?_
 go_wp2_with fail
 go_loopw [9] (fun y wr=>∃ (i:Nat) (q:St),i≤l.length+1∧y= .int .i64 (i:Int)∧Blk wr w.heap.size 240 #[.int .u64 0, .int .u64 0, .int .u64 0]∧Blk wr (w.heap.size+1) 248 #[.int .u64 (p:Int)]∧Blk wr g 240 q.cs∧Below w.heap.size w wr∧Hid (Uw p (l.drop i) q=fin)) (fun y _=>l.length-(intOf y).toNat)
 case atStart=>exact ⟨0,⟨0,0,c0⟩,by omega,rfl,kr,kf,ks,hb0,HF.out.symm⟩
 case round =>
  clear kr kf ks hb0
  obtain ⟨i,q,hi,rfl,kr,kf,ks,hb0,HI⟩:=hrel
  obtain ⟨qa,qb,qc⟩:=q
  have ks2:Blk wr g 240 #[.int .u64 (qa:Int), .int .u64 (qb:Int), .int .u64 (qc:Int)]:=ks
  replace ks:=ks2
  clear ks2
  by_cases hi1:i<l.length
  ·have hx:=Ka hlt hi1
   obtain ⟨bb,bq,eA,hbl,cl⟩:=Vl (hrd.below hb0) hi1
   have HLT:=Lib.hid hlt
   have HRD:=Lib.hid hrd
   have HI1:=Lib.hid hi1
   have g1:(0:Int)≤(i:Int):=by omega
   have g2:(i:Int)<(l.length:Int):=by omega
   by_cases hi2:i+1<l.length
   ·obtain ⟨bb2,bq2,eA2,hbl2,cl2⟩:=Vl (hrd.below hb0) hi2
    have HD:=Lib.hid (zm hi2)
    obtain ⟨i1,hi1e⟩:∃ i1,i1=i+1:=⟨_,rfl⟩
    have e1:(i:Int)+1=(i1:Int):=by omega
    have e2:IntKind.i64.wrap ((i:Int)+1)=(i1:Int):=by rw [IntKind.wrap_i64];omega
    have e3:IntKind.i64.wrap (i1:Int)=(i1:Int):=by rw [IntKind.wrap_i64];omega
    have g4:(0:Int)≤(i1:Int):=by omega
    have g3:(i1:Int)<(l.length:Int):=by omega
    have HI2:=Lib.hid (show i1<l.length by omega)
    have HI1E:=Lib.hid hi1e
    rw [eA] at eA2
    have eA3:=Option.some.inj eA2
    injection eA3 with e5 e6
    subst e5 e6
    subst eA
    clear eA2 hbl2
    have HIF:=Lib.hid (show Uw p (l.getD i 0 :: l.getD (i+1) 0 :: l.drop (i+2)) ⟨qa,qb,qc⟩=fin by rw [←HD.out];exact HI.out)
    clear HD hlt hrd hi2 hx hi1e
    obtain ⟨y,hy⟩:∃ y,y=l.getD (i+1) 0:=⟨_,rfl⟩
    generalize l.getD i 0=x at *
    rw [←hy] at HIF cl2
    have HY:=Lib.hid hy.symm
    clear hy
    have HA1:=Lib.hid (fun w=>HA.out qa x w)
    have HA2:=Lib.hid (fun w=>HA.out qb y w)
    obtain ⟨na,hna⟩:∃ na,na=(qa+x)%p:=⟨_,rfl⟩
    obtain ⟨nb,hnb⟩:∃ nb,nb=(qb+y)%p:=⟨_,rfl⟩
    rw [←hna] at HA1
    rw [←hnb] at HA2
    obtain ⟨z,hz⟩:∃ z,z=Uj p ⟨na,nb,qc⟩:=⟨_,rfl⟩
    have HX:=Lib.hid (show ∀ w,Calls Tryz.prog 242 #[.int .u64 p, .agg #[.int .u64 (na:Int), .int .u64 (nb:Int), .int .u64 (qc:Int)]] w fun e w'=>e= .returned (.agg #[.int .u64 (z.a:Int), .int .u64 (z.b:Int), .int .u64 (z.c:Int)])∧Below w.heap.size w w' from fun w=>by rw [hz];exact HP.out ⟨na,nb,qc⟩ w)
    have HZ:=Lib.hid (show Uw p (l.drop (i+2)) z=fin by rw [hz];rw [hna,hnb];exact HIF.out)
    clear hz
    clear HIF hna hnb
    have cs:=ks.cell
    have ls:=ks.lt
    have cf:=kf.cell
    have lf:=kf.lt
    have cl2H:=Lib.hid cl2
    clear cl2
    go_wp2_with fail
    refine Z8 (Yj) (later_moves) [9] [9] [0,1,2,3,4,5,6,7,8,9] (by kernel_rfl) (by kernel_rfl) ?_
    refine Z9 (later_moves) ?_
    intro Wc hacc
    repeat (first | (refine Zr (later_moves) rfl rfl rfl rfl (fun _ _ _ h=>h) ?_;simp only [Act.put,zLa,zLb,zLc]) | (refine Zk (v:=?_) (later_moves) rfl rfl rfl rfl (fun _ _ _ h=>h) ?_ ?_;rotate_left;(· (intro w' hR;(first | have hcells:=Zd ((later_moves).trans _ _ _ hacc hR) | skip);go_simp;try with_reducible rfl));simp only [Act.put,zLa,zLb,zLc]) | (refine ZE (v:=?_) rfl rfl rfl rfl (fun _ _ _ h=>h) ?_ ?_;rotate_left;(· (intro w';go_simp;try with_reducible rfl));simp only [Act.put,zLa,zLb,zLc]))
    refine ZK (later_moves) rfl rfl rfl rfl (fun _ _ _ h=>h) (fun _=>by go_simp <;> rfl) (fun w' hR=>HA1.out _) ?_
    simp only [Act.put,zLa,zLb,zLc]
    repeat (first | (refine Zr (later_moves) rfl rfl rfl rfl (fun _ _ _ h=>h) ?_;simp only [Act.put,zLa,zLb,zLc]) | (refine Zk (v:=?_) (later_moves) rfl rfl rfl rfl (fun _ _ _ h=>h) ?_ ?_;rotate_left;(· (intro w' hR;(first | have hcells:=Zd ((later_moves).trans _ _ _ hacc hR) | skip);go_simp;try with_reducible rfl));simp only [Act.put,zLa,zLb,zLc]) | (refine ZE (v:=?_) rfl rfl rfl rfl (fun _ _ _ h=>h) ?_ ?_;rotate_left;(· (intro w';go_simp;try with_reducible rfl));simp only [Act.put,zLa,zLb,zLc]))
    refine Yr rfl rfl rfl rfl ?_
    intro wh hRh
    replace hacc:=(later_moves).trans _ _ _ hacc hRh
    replace kr:=kr.drew.below hacc kr.lt
    replace ks:=ks.drew.below hacc ks.lt
    replace kf:=kf.drew.below hacc kf.lt
    replace hb0:=Za hb0.drew hacc
    clear cs cf lf ls hacc hRh cl
    have c2:=ks.cell
    have f2:=ks.frozen
    go_simp
    refine ⟨fun h=>Bool.noConfusion h,?_⟩
    have hg:wh.grownBy (wh.setCell ⟨g,0,none⟩ (.int .u64 (na:Int))) (some g):=ZF (p:=⟨g,0,none⟩) (ZO wh _) (.inl rfl) _
    replace ks:=ks.set_ 0 (.int .u64 (na:Int))
    simp at ks
    replace kr:=kr.grown hg (fun e=>by have:=Option.some.inj e;omega)
    replace kf:=kf.grown hg (fun e=>by have:=Option.some.inj e;omega)
    replace hb0:=hb0.trans (Zv hg hb0.size (by omega))
    clear hg c2 f2
    generalize wh.setCell _ _=Wf0 at ks kr hb0 kf ⊢
    refine YB rfl ?_
    have cl2:Wf0.cell? ⟨bb,bq+i1,none⟩=some (.int .u64 (y:Int)):=by obtain ⟨b3,q3,e3,-,h3⟩:=Vl (HRD.out.below hb0) HI2.out;have e4:=Option.some.inj e3;injection e4 with e5 e6;subst e5 e6;rw [h3,HI1E.out,HY.out]
    have hbl2:bb<Wf0.heap.size:=World.block_lt_of_cell? _ _ cl2
    have cs:=ks.cell
    have ls:=ks.lt
    have cf:=kf.cell
    have lf:=kf.lt
    go_wp2_with fail
    refine Z8 (Yj) (later_moves) [10] [10] [0,1,2,3,4,5,6,7,8,9,10] (by kernel_rfl) (by kernel_rfl) ?_
    refine Z9 (later_moves) ?_
    intro Wc hacc
    repeat (first | (refine Zr (later_moves) rfl rfl rfl rfl (fun _ _ _ h=>h) ?_;simp only [Act.put,zLa,zLb,zLc]) | (refine Zk (v:=?_) (later_moves) rfl rfl rfl rfl (fun _ _ _ h=>h) ?_ ?_;rotate_left;(· (intro w' hR;(first | have hcells:=Zd ((later_moves).trans _ _ _ hacc hR) | skip);go_simp;try with_reducible rfl));simp only [Act.put,zLa,zLb,zLc]) | (refine ZE (v:=?_) rfl rfl rfl rfl (fun _ _ _ h=>h) ?_ ?_;rotate_left;(· (intro w';go_simp;try with_reducible rfl));simp only [Act.put,zLa,zLb,zLc]))
    refine ZK (later_moves) rfl rfl rfl rfl (fun _ _ _ h=>h) (fun _=>by go_simp <;> rfl) (fun w' hR=>HA2.out _) ?_
    simp only [Act.put,zLa,zLb,zLc]
    repeat (first | (refine Zr (later_moves) rfl rfl rfl rfl (fun _ _ _ h=>h) ?_;simp only [Act.put,zLa,zLb,zLc]) | (refine Zk (v:=?_) (later_moves) rfl rfl rfl rfl (fun _ _ _ h=>h) ?_ ?_;rotate_left;(· (intro w' hR;(first | have hcells:=Zd ((later_moves).trans _ _ _ hacc hR) | skip);go_simp;try with_reducible rfl));simp only [Act.put,zLa,zLb,zLc]) | (refine ZE (v:=?_) rfl rfl rfl rfl (fun _ _ _ h=>h) ?_ ?_;rotate_left;(· (intro w';go_simp;try with_reducible rfl));simp only [Act.put,zLa,zLb,zLc]))
    refine Yr rfl rfl rfl rfl ?_
    intro wh hRh
    replace hacc:=(later_moves).trans _ _ _ hacc hRh
    replace kr:=kr.drew.below hacc kr.lt
    replace ks:=ks.drew.below hacc ks.lt
    replace kf:=kf.drew.below hacc kf.lt
    replace hb0:=Za hb0.drew hacc
    clear cs cf lf ls hacc hRh cl2
    have c2:=ks.cell
    have f2:=ks.frozen
    go_simp
    refine ⟨fun h=>Bool.noConfusion h,?_⟩
    have hg:wh.grownBy (wh.setCell ⟨g,1,none⟩ (.int .u64 (nb:Int))) (some g):=ZF (p:=⟨g,1,none⟩) (ZO wh _) (.inl rfl) _
    replace ks:=ks.set_ 1 (.int .u64 (nb:Int))
    simp at ks
    replace kr:=kr.grown hg (fun e=>by have:=Option.some.inj e;omega)
    replace kf:=kf.grown hg (fun e=>by have:=Option.some.inj e;omega)
    replace hb0:=hb0.trans (Zv hg hb0.size (by omega))
    clear hg c2 f2
    generalize wh.setCell _ _=Wf1 at ks kr hb0 kf ⊢
    refine YB rfl ?_
    have cs:=ks.cell
    go_wp2_with fail
    refine (HX.out _).mono ?_
    rintro e w5 ⟨rfl,hb5⟩
    replace kr:=kr.below hb5 kr.lt
    replace ks:=ks.below hb5 ks.lt
    replace kf:=kf.below hb5 kf.lt
    replace hb0:=Za hb0 hb5
    clear cs hb5
    have cs:=ks.cell
    have fs:=ks.frozen
    go_wp2_with fail
    have hg:=Yh (w:=w5) (g:=g) (.int .u64 (z.a:Int)) (.int .u64 (z.b:Int)) (.int .u64 (z.c:Int))
    have kz:=YS ks (.int .u64 (z.a:Int)) (.int .u64 (z.b:Int)) (.int .u64 (z.c:Int))
    replace kr:=kr.grown hg (fun e=>by have:=Option.some.inj e;omega)
    replace kf:=kf.grown hg (fun e=>by have:=Option.some.inj e;omega)
    replace hb0:=hb0.trans (Zv hg hb0.size (by omega))
    clear hg cs fs ks
    generalize ((World.setCell w5 _ _).setCell _ _).setCell _ _=Wz at kz kr hb0 kf ⊢
    go_roundw
    case rel=>exact ⟨i+2,z,by omega,by go_num,kr,kf,kz,hb0,HZ.out⟩
    case measure=>simp [intOf];omega
   ·have hi3:i+1=l.length:=by omega
    have HD:=Lib.hid (Gt hi3)
    have g3:¬((i:Int)+1<(l.length:Int)):=by omega
    subst eA
    have HIF:=Lib.hid (show Uw p [l.getD i 0] ⟨qa,qb,qc⟩=fin by rw [←HD.out];exact HI.out)
    have HDN:=Lib.hid (show l.drop (i+2)=[] from List.drop_of_length_le (by omega))
    clear HD hlt hrd hx
    generalize l.getD i 0=x at *
    have HA1:=Lib.hid (fun w=>HA.out qa x w)
    obtain ⟨na,hna⟩:∃ na,na=(qa+x)%p:=⟨_,rfl⟩
    rw [←hna] at HA1
    obtain ⟨z,hz⟩:∃ z,z=Uj p ⟨na,qb,qc⟩:=⟨_,rfl⟩
    have HX:=Lib.hid (show ∀ w,Calls Tryz.prog 242 #[.int .u64 p, .agg #[.int .u64 (na:Int), .int .u64 (qb:Int), .int .u64 (qc:Int)]] w fun e w'=>e= .returned (.agg #[.int .u64 (z.a:Int), .int .u64 (z.b:Int), .int .u64 (z.c:Int)])∧Below w.heap.size w w' from fun w=>by rw [hz];exact HP.out ⟨na,qb,qc⟩ w)
    have HZ:=Lib.hid (show Uw p (l.drop (i+2)) z=fin by rw [hz];rw [HDN.out,hna];exact HIF.out)
    clear hz
    clear HIF HDN hi2 hi3 hna
    have cs:=ks.cell
    have ls:=ks.lt
    have cf:=kf.cell
    have lf:=kf.lt
    go_wp2_with fail
    refine Z8 (Yj) (later_moves) [9] [9] [0,1,2,3,4,5,6,7,8,9] (by kernel_rfl) (by kernel_rfl) ?_
    refine Z9 (later_moves) ?_
    intro Wc hacc
    repeat (first | (refine Zr (later_moves) rfl rfl rfl rfl (fun _ _ _ h=>h) ?_;simp only [Act.put,zLa,zLb,zLc]) | (refine Zk (v:=?_) (later_moves) rfl rfl rfl rfl (fun _ _ _ h=>h) ?_ ?_;rotate_left;(· (intro w' hR;(first | have hcells:=Zd ((later_moves).trans _ _ _ hacc hR) | skip);go_simp;try with_reducible rfl));simp only [Act.put,zLa,zLb,zLc]) | (refine ZE (v:=?_) rfl rfl rfl rfl (fun _ _ _ h=>h) ?_ ?_;rotate_left;(· (intro w';go_simp;try with_reducible rfl));simp only [Act.put,zLa,zLb,zLc]))
    refine ZK (later_moves) rfl rfl rfl rfl (fun _ _ _ h=>h) (fun _=>by go_simp <;> rfl) (fun w' hR=>HA1.out _) ?_
    simp only [Act.put,zLa,zLb,zLc]
    repeat (first | (refine Zr (later_moves) rfl rfl rfl rfl (fun _ _ _ h=>h) ?_;simp only [Act.put,zLa,zLb,zLc]) | (refine Zk (v:=?_) (later_moves) rfl rfl rfl rfl (fun _ _ _ h=>h) ?_ ?_;rotate_left;(· (intro w' hR;(first | have hcells:=Zd ((later_moves).trans _ _ _ hacc hR) | skip);go_simp;try with_reducible rfl));simp only [Act.put,zLa,zLb,zLc]) | (refine ZE (v:=?_) rfl rfl rfl rfl (fun _ _ _ h=>h) ?_ ?_;rotate_left;(· (intro w';go_simp;try with_reducible rfl));simp only [Act.put,zLa,zLb,zLc]))
    refine Yr rfl rfl rfl rfl ?_
    intro wh hRh
    replace hacc:=(later_moves).trans _ _ _ hacc hRh
    replace kr:=kr.drew.below hacc kr.lt
    replace ks:=ks.drew.below hacc ks.lt
    replace kf:=kf.drew.below hacc kf.lt
    replace hb0:=Za hb0.drew hacc
    clear cs cf lf ls hacc hRh cl
    have c2:=ks.cell
    have f2:=ks.frozen
    go_simp
    refine ⟨fun h=>Bool.noConfusion h,?_⟩
    have hg:wh.grownBy (wh.setCell ⟨g,0,none⟩ (.int .u64 (na:Int))) (some g):=ZF (p:=⟨g,0,none⟩) (ZO wh _) (.inl rfl) _
    replace ks:=ks.set_ 0 (.int .u64 (na:Int))
    simp at ks
    replace kr:=kr.grown hg (fun e=>by have:=Option.some.inj e;omega)
    replace kf:=kf.grown hg (fun e=>by have:=Option.some.inj e;omega)
    replace hb0:=hb0.trans (Zv hg hb0.size (by omega))
    clear hg c2 f2
    generalize wh.setCell _ _=Wf0 at ks kr hb0 kf ⊢
    refine YB rfl ?_
    have cs:=ks.cell
    go_wp2_with fail
    refine (HX.out _).mono ?_
    rintro e w5 ⟨rfl,hb5⟩
    replace kr:=kr.below hb5 kr.lt
    replace ks:=ks.below hb5 ks.lt
    replace kf:=kf.below hb5 kf.lt
    replace hb0:=Za hb0 hb5
    clear cs hb5
    have cs:=ks.cell
    have fs:=ks.frozen
    go_wp2_with fail
    have hg:=Yh (w:=w5) (g:=g) (.int .u64 (z.a:Int)) (.int .u64 (z.b:Int)) (.int .u64 (z.c:Int))
    have kz:=YS ks (.int .u64 (z.a:Int)) (.int .u64 (z.b:Int)) (.int .u64 (z.c:Int))
    replace kr:=kr.grown hg (fun e=>by have:=Option.some.inj e;omega)
    replace kf:=kf.grown hg (fun e=>by have:=Option.some.inj e;omega)
    replace hb0:=hb0.trans (Zv hg hb0.size (by omega))
    clear hg cs fs ks
    generalize ((World.setCell w5 _ _).setCell _ _).setCell _ _=Wz at kz kr hb0 kf ⊢
    go_roundw
    case rel=>exact ⟨i+2,z,by omega,by go_num,kr,kf,kz,hb0,HZ.out⟩
    case measure=>simp [intOf];omega
  ·have HQ:=Lib.hid (show (⟨qa,qb,qc⟩:St)=fin by have:=HI.out;rw [List.drop_of_length_le (by omega)] at this;exact this)
   have g2:¬((i:Int)<(l.length:Int)):=by omega
   have cs:=ks.cell
   have cr:=kr.cell
   have fr:=kr.frozen
   clear hrd hlt
   go_wp2_with fail
   have hg:=Yh (w:=wr) (g:=w.heap.size) (.int .u64 (qa:Int)) (.int .u64 (qb:Int)) (.int .u64 (qc:Int))
   have kz:=YS kr (.int .u64 (qa:Int)) (.int .u64 (qb:Int)) (.int .u64 (qc:Int))
   clear cs cr fr kr ks
   generalize ((World.setCell wr _ _).setCell _ _).setCell _ _=Wz at hg kz ⊢
   have cz:=kz.cell
   exact bodyPost_ret (v:=.agg #[.int .u64 (qa:Int), .int .u64 (qb:Int), .int .u64 (qc:Int)]) (by simp [results,Tryz.results241,go_sem,cz]) rfl ⟨by rw [←HQ.out];rfl,hb0.trans (Zv hg hb0.size (Nat.le_refl _))⟩
end Go.Proofs.YtdhhdplholkmdaaGreat
