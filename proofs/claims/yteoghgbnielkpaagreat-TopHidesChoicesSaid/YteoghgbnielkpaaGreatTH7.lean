/- A part of the proof. No condition. -/
import Derived.Test.YteoghgbnielkpaaGreatTH6

set_option maxRecDepth 100000
set_option maxHeartbeats 8000000
set_option linter.unusedVariables false
set_option linter.unusedSimpArgs false
namespace Go.Proofs.YteoghgbnielkpaaGreat
open Go.RowKit
open Tryz
open Go renaming World->vw, Value->vx, Addr->vy, TypeId->vz, Calls->vB
open Go.Value renaming int->vd, slice->ve, agg->vf
open Go.IntKind renaming u64->vn, i64->vq
open Go.Ending renaming returned->vl
open Go.RowKit renaming Below->vA
open Go.Act renaming put->vG
open Option renaming none->vD, some->vE
def WR (w:vw) (g:Nat) (bd:Nat × Nat) (l:List Nat) (f:Bool):Prop :=
 ∃ (A:Option vy) (n c p:Nat) (L:List Nat),Blk w g 340 #[ve A n c,vd vq p, .bool f] /\ Rd w 1 A n (U8 L) /\ ((∀ ad,A=vE ad -> bd.1 <= ad.block /\ ad.block<bd.2) /\ bd.2 <= g) /\ (p <= n /\ n <= c) /\ n <= 10000000 /\ L.drop p=l /\ ∀ x∈L,x<256
def pz (l:List Oper) (i j:Nat):Bool:=match l[i]?,l[j]? with
 | some x,vE y=>x.apart l.toArray y
 | _,_=>false
def TM (P:Program) (o:Oper) (t:vz) (z:Array vx):Prop:=o.guard=vD /\ ∀ a w,(execOp a o).run P w= .ok (.value (.pointer (vE ⟨w.1.size,0,vD⟩))) (w.alloc (.cells z t))
section
variable {P:Program} {l:List Oper} {hs tail:List Nat} {Q:Exit -> Act -> vw -> Prop} {N j:Nat} {t:vz} {z:Array vx} {rest:List Nat} {i:Nat} {o:Oper} {ya:Array Bool} {a:Act} {w:vw}
theorem wW {oj:Oper} (h:pz l i j=true) (ho:l[i]?=vE o) (Rh:l[j]?=vE oj):o.apart l.toArray oj=true:=by
 unfold pz at h;rw [ho,Rh] at h;exact h
end
theorem L2 {w:vw} {base:Nat} {e:vz} {size:Nat} {v:vx} {n:Nat} {xs:List vx} {g:Nat} {t:vz} {cs:Array vx} (h:w.ownsRow base e size v n xs) (k:Blk w g t cs) (ht:t≠e):∀ q,v.ownBlock=vE q -> vE g=vE q -> False:=fun q hq hg=>by
 obtain rfl:=db hg;obtain ⟨h1,h2⟩:=h;rcases h2 with ⟨rfl,-⟩ | ⟨q,cap,cur,rfl,-,hh,-⟩
 ·cases hq
 ·obtain rfl:q=g:=db hq
  unfold Blk at k;rw [hh] at k;cases k
  exact ht rfl
def uI (l:List Oper) (hs bars fs:List Nat):List Nat -> Array Bool -> Bool
 | [],ya=>(Region.ready .any l.toArray ya).isEmpty
 | i :: rest,ya=>decide (i<l.length)&&(Region.ready .any l.toArray ya).contains i &&
   (if hs.contains i then Region.ready .any l.toArray ya == [i] else Region.free .any l.toArray ya i&&!bars.contains i&&(Qd bars ya||fs.contains i||bars.all fun b=>rK l b i))&&uI l hs bars fs rest (ya.setIfInBounds i true)
def Ht (P:Program) (l:List Oper) (hs bars fs:List Nat) (Q:Exit -> Act -> vw -> Prop) (R:vw -> vw -> Prop) (order:List Nat) (ya:Array Bool) (a:Act) (w:vw):Prop :=
 Region.noSelect l.toArray=true -> uI l hs bars fs order ya=true -> wpB P l.toArray Q bars R order.length ya a w
section
variable {P:Program} {l:List Oper} {hs bars fs:List Nat} {Q:Exit -> Act -> vw -> Prop} {R:vw -> vw -> Prop} {rest:List Nat} {i:Nat} {o:Oper} {ya:Array Bool} {a:Act} {w:vw}
theorem zV {id:Nat} (R:vw -> vw -> Prop) (hs bars fs order:List Nat) (hm:P.follows .mixedOrders=true) (ib:(Region.noSelect l.toArray&&order.length == l.length&&uI l hs bars fs order (List.replicate l.length false).toArray)=true)
  (h:Ht P l hs bars fs Q R order (List.replicate l.length false).toArray a w.drew):(Code.region id l.toArray true).wp P Q a w:=by
 simp only [Cc,Hh] at ib;refine wp_region_any hm (uV (bars:=bars) (S:=R w.drew) _ _ _ _ ?_);have h2:=h ib.1.1 ib.2;have e:Array.replicate l.toArray.size false=(List.replicate l.length false).toArray:=by simp
 rw [ib.1.2] at h2;rw [e]
 simpa [wpB] using h2
theorem Q8 (M:ie R) {order:List Nat} (h:∀ W,R w W -> Ht P l hs bars fs Q R order ya a W):Ht P l hs bars fs Q R order ya a w:=h w (M.refl w)
theorem zGL (M:ie R) {order:List Nat} (h:∀ W,Hid (W=w) -> R w W -> Ht P l hs bars fs Q R order ya a W):Ht P l hs bars fs Q R order ya a w:=h w rfl (M.refl w)
theorem AV (h:Q .normal a w):Ht P l hs bars fs Q R [] ya a w:=fun _ ib=>⟨by simpa [uI] using ib,h⟩
theorem XO (h:uI l hs bars fs (i :: rest) ya=true):i<l.length /\ (Region.ready .any l.toArray ya).contains i=true /\
  (hs.contains i=true -> Region.ready .any l.toArray ya=[i]) /\
  (hs.contains i=false -> Region.free .any l.toArray ya i=true /\ i ∉ bars /\ (Qd bars ya=true \/ fs.contains i=true \/ ∀ b∈bars,rK l b i=true)) /\ uI l hs bars fs rest (ya.setIfInBounds i true)=true:=by
 unfold uI at h;simp only [Cc,Bo] at h;obtain ⟨⟨⟨h1,h2⟩,h3⟩,h4⟩:=h;refine ⟨h1,h2,fun h6=>?_,fun h6=>?_,h4⟩
 ·rw [Qa h6] at h3
  simpa using h3
 ·rw [La (by rw [h6];exact Bool.noConfusion)] at h3
  simp only [Cc,il,Bool.or_eq_true,Xd] at h3;refine ⟨h3.1.1,fun hm=>?_,by rcases h3.2 with (h | h) | h;exact .inl h;exact .inr (.inl h);exact .inr (.inr h)⟩
  have:=h3.1.2;simp [hm] at this
theorem zGJ {v:vx} (M:ie R) (hh:hs.contains i=false) (hf:fs.contains i=false) (ho:l[i]?=vE o) (hw:Region.wanted o (yielded l.toArray a.tmps)=true) (hQ:∀ c a w,Q (.panic c) (a.put o.dst v) w -> Q (.panic c) a w)
  (td:∀ w',(Qd bars ya=false -> R w w') -> (execOp a.eval o).run P w'= .ok (.value v) w') (h:Ht P l hs bars fs Q R rest (ya.setIfInBounds i true) (a.put o.dst v) w):Ht P l hs bars fs Q R (i :: rest) ya a w:=by
 intro hn ib;obtain ⟨h1,h2,-,h4,h5⟩:=XO ib;obtain ⟨f1,f2,f3⟩:=h4 hh;have jj:l.toArray[i]?=vE o:=by rw [dn];exact ho
 cases hp:Qd bars ya
 ·refine QI (T:=R w) jj (Wu hn) hQ f2 (.inr ⟨fun _ h=>h,fun b hb ob hob=>rV hob ?_⟩) _ _ _ _ (.inr hp) (Region.free_spec jj f1) (by simpa using h2) (.inl ⟨hw,fun w' hR=>td w' fun _=>hR⟩) (M.refl w) (fun _=>M.refl w) (h hn h5)
  rcases f3 with f3 | f3 | f3
  ·rw [hp] at f3;cases f3
  ·rw [hf] at f3;cases f3
  ·exact f3 b hb
 ·exact QI (T:=fun _=>True) jj (Wu hn) hQ f2 (.inl fun _=>trivial) _ _ _ _ (.inl fun _=>trivial) (Region.free_spec jj f1) (by simpa using h2) (.inl ⟨hw,fun w' _=>td w' fun h=>by rw [hp] at h;cases h⟩) trivial (fun _=>M.refl w) (h hn h5)
theorem zGI {v:vx} (M:ie R) (hh:hs.contains i=false) (ho:l[i]?=vE o) (hw:Region.wanted o (yielded l.toArray a.tmps)=true) (hQ:∀ c a w,Q (.panic c) (a.put o.dst v) w -> Q (.panic c) a w)
  (td:∀ w',(execOp a.eval o).run P w'= .ok (.value v) w') (h:Ht P l hs bars fs Q R rest (ya.setIfInBounds i true) (a.put o.dst v) w):Ht P l hs bars fs Q R (i :: rest) ya a w:=by
 intro hn ib;obtain ⟨h1,h2,-,h4,h5⟩:=XO ib;obtain ⟨f1,f2,-⟩:=h4 hh;have jj:l.toArray[i]?=vE o:=by rw [dn];exact ho
 exact QI (T:=fun _=>True) jj (Wu hn) hQ f2 (.inl fun _=>trivial) _ _ _ _ (.inl fun _=>trivial) (Region.free_spec jj f1) (by simpa using h2) (.inl ⟨hw,fun w' _=>td w'⟩) trivial (fun _=>M.refl w) (h hn h5)
theorem zGK (M:ie R) (hh:hs.contains i=false) (ho:l[i]?=vE o) (hw:Region.wanted o (yielded l.toArray a.tmps)=false) (hQ:∀ c a w,Q (.panic c) (a.put o.dst undef) w -> Q (.panic c) a w)
  (h:Ht P l hs bars fs Q R rest (ya.setIfInBounds i true) (a.put o.dst undef) w):Ht P l hs bars fs Q R (i :: rest) ya a w:=by
 intro hn ib;obtain ⟨h1,h2,-,h4,h5⟩:=XO ib;obtain ⟨f1,f2,f3⟩:=h4 hh;have jj:l.toArray[i]?=vE o:=by rw [dn];exact ho
 exact QI (T:=fun _=>True) jj (Wu hn) hQ f2 (.inl fun _=>trivial) _ _ _ _ (.inl fun _=>trivial) (Region.free_spec jj f1) (by simpa using h2) (.inr ⟨hw,rfl⟩) trivial (fun _=>M.refl w) (h hn h5)
theorem xK {a b:Prop} (h:a) (s:Imp a b:=by
 (repeat ((first | (apply Imp.via (zGK (pa) rfl rfl rfl (fun _ _ _ h=>h))) | (apply Imp.via (zGJ (v:=?_) (pa) rfl rfl rfl rfl (fun _ _ _ h=>h) ?hr);case hr=>(intro w' hR;(first | have Bn:=EJ ((pa).trans _ _ _ ea (hR rfl)) | skip);clear hR;go_simp;try with_reducible rfl)) | (apply Imp.via (zGI (v:=?_) (pa) rfl rfl rfl (fun _ _ _ h=>h) ?hr);case hr=>(intro w';go_simp;try with_reducible rfl)));simp only [vG,zLa,zLb,zLc]))
 exact Imp.rfl'):b:=s h
theorem sK (M:ie R) (hh:hs.contains i=true) (ho:l[i]?=vE o) (hw:Region.wanted o (yielded l.toArray a.tmps)=true)
  (h:o.wp P a w (fun a' w'=>(Qd bars (ya.setIfInBounds i true)=false -> R w w') /\ Ht P l hs bars fs Q R rest (ya.setIfInBounds i true) a' w') Q):Ht P l hs bars fs Q R (i :: rest) ya a w:=by
 intro hn ib;obtain ⟨h1,h2,h3,-,h5⟩:=XO ib;have hr:=h3 hh;refine ⟨fun h0=>absurd (hr ▸ h0) (by simp),fun j hj=>?_⟩
 rw [hr,zp] at hj;subst hj;unfold wpOp;have hi:l.toArray[j]?=vE o:=by rw [dn];exact ho
 simp only [hi,hw,if_true];refine .inl (Oper.wp_mono (fun a' w' h'=>⟨h'.1,?_⟩) h)
 have hk:=h'.2 hn h5;cases hp:Qd bars (ya.setIfInBounds j true)
 ·exact tV (fun w2 h2=>M.trans _ _ _ (h'.1 hp) h2) _ _ _ _ hk
 ·exact sV _ _ _ _ hp hk
end
theorem OR (p a n:Nat) (w:vw) (hp:Ib p=true) (hn:n <= 65536) :
  vB prog 226 #[fv p,vd vn a,vd vq n] w fun e w'=>∃ g,e=vl (ve (vE ⟨g,0,vD⟩) n n) /\ w.1.size <= g /\ Blk w' g 22 (Oa n fun i=>a^i%p) /\ vA w.1.size w w':=by
 obtain ⟨Ed,uc⟩:=Nb hp;have HV:=zH (fun w=>Eo p w hp)
 have HR:=zH (fun w=>EB p a w (by omega))
 obtain ⟨F,hF⟩:∃ F:Nat -> Nat,F=fun i=>a^i%p:=⟨_,rfl⟩
 obtain ⟨r,hr⟩:=zEX (a%p);have HM:=zH (show ∀ i (w:vw),vB prog 227 #[fv p,vd vn (F i:Int),vd vn r] w fun e w'=>e=vl (vd vn (F (i+1):Int)) /\ vA w.1.size w w' from fun i w=>by
  have:=MN p (a^i%p) (a%p) w hp (ic _ (by omega)) (ic _ (by omega))
  rw [<- Nat.mul_mod,<- Ig] at this;rw [hF,hr];exact this)
 have H0:=zH (show F 0=1 by rw [hF];show a^0%p=1;rw [Nat.pow_zero];exact Fj (by omega))
 rw [<- hr] at HR;rw [<- hF];have mk:=Yv n (by omega)
 have g0:(0:Int)<=n:=by omega
 have g1:(n:Int) <= 65536:=by omega
 unfold fv at *;have kf:=Blk.new w 224 #[vd vn p];have da:vA w.1.size w (w.alloc (.cells #[vd vn p] 224)):=(za _ _).alloc zR _;clear hp hF hr;go_enter func226,ntmps226
 go_wp2_with fail
 generalize w.alloc _=w1 at kf da |-;refine (HV.out _).mono ?_;rintro e w2 ⟨rfl,ta⟩;replace kf:=ia kf ta;replace da:=ma da ta;clear ta;have cf:=kf.cell;go_wp2_with fail
 refine (HR.out _).mono ?_;rintro e w3 ⟨rfl,ta⟩;replace kf:=ia kf ta;replace da:=ma da ta;clear ta cf;go_wp2_with fail
 have kr:=Blk.new w3 22 (Oa n fun _=>0)
 have Qj:=(za w3.1.size w3).alloc zR (.cells (Oa n fun _=>0) 22)
 generalize w3.alloc _=w5 at kr Qj |-;have HZ:=zH (NI n F fun _=>0)
 clear mk HR HV;go_loopw [8,28] (fun pw y wr=>∃ i:Nat,i <= n /\ y=vd vq i /\ pw=vd vn (F i:Int) /\ Blk wr w3.1.size 22 (Oa n (Ch F (fun _=>0) i)) /\ vA w3.1.size w3 wr) (fun _ y _=>n-(intOf y).toNat)
 case atStart=>exact ⟨0,Lb _,rfl,by rw [H0.out];rfl,by rw [HZ.out];exact kr,Qj⟩
 case round =>
  clear kr Qj;obtain ⟨i,hi,rfl,rfl,kr,Qj⟩:=hrel;by_cases ra:i<n
  ·have q1:(i:Int)<n:=by omega
   have q2:(0:Int)<=i:=by omega
   have cr:=kr.cell i;rw [pD _ _ ra] at cr;have fr:=kr.frozen;obtain ⟨x,hx⟩:=zEX (F i);obtain ⟨z,hz⟩:=zEX (F (i+1));have HS:=zH (qD (n:=n) (G:=fun _=>0) hx)
   have Le:=zH (fun w=>by have:=HM.out i w;rw [<- hx,<- hz] at this;exact this)
   have HZ1:=zH hz;rw [<- hx];clear hx hz;have Hc:=ia kf Qj;have hlf:=kf.lt;have hg:=Bj (w:=wr) w3.1.size i (vd vn x);have Zf:=kr.set_ i (vd vn x);rw [HS.out] at Zf;have Pf:=Hc.grown hg (fun e=>by have:=db e;omega)
   have Aa:=Qj.trans (Ok hg Qj.size zR);have cf:=Pf.cell;go_wp2_with fail
   clear cf hg cr fr Hc;generalize wr.setCell _ _=w6 at Zf Pf Aa |-;refine (Le.out _).mono ?_;rintro e w7 ⟨rfl,ta⟩;replace Zf:=ia Zf ta;replace Aa:=ma Aa ta;go_wp2
   go_roundw
   case rel=>exact ⟨i+1,by omega,by go_num,by rw [<- HZ1.out],Zf,Aa⟩
   case measure=>simp [intOf];omega
  ·obtain rfl:i=n:=by omega
   have q1:¬((i:Int)<i):=by omega
   rw [pK] at kr;go_wp2;go_ret
   exact ⟨_,rfl,da.size,kr,ma da Qj⟩
def nu (p:Nat) (a b:List Nat):Nat -> Nat
 | 0=>0
 | k+1=>(nu p a b k+a.getD k 0%p*(b.getD k 0%p)%p)%p
theorem zAU {p:Nat} (hp:0<p) (a b:List Nat):∀ k,nu p a b k<p
 | 0=>hp
 | _+1=>ic _ hp
theorem zBd (p:Nat) (A B:Option vy) (n c m d:Nat) (a b:List Nat) (w:vw) (hp:Ib p=true) (ha:RWd w [ve A n c] a) (hb:RWd w [ve B m d] b) (hnm:n=m) :
  vB prog 294 #[fv p,ve A n c,ve B m d] w fun e w'=>e=vl (vd vn (nu p a b n:Int)) /\ vA w.1.size w w':=by
 subst hnm;obtain ⟨mi,hac,hax,-,hra⟩:=Qb ha;obtain ⟨Rq,-,-,-,hrb⟩:=Qb hb;have gm:=Tl hac hax;obtain ⟨Ed,uc⟩:=Nb hp;have HV:=zH (fun w=>Eo p w hp)
 have HR:=zH (fun x w=>EB p x w (by omega))
 have HM:=zH (fun x y w hx hy=>MN p x y w hp hx hy)
 have HA:=zH (fun x y w hx hy=>QX p x y w hp hx hy)
 have HL:=zH (fun x:Nat=>ic x (show 0<p by omega))
 have HD:=zH (fun k=>zAU (p:=p) (by omega) a b k)
 obtain ⟨S,hS⟩:=zEX (nu p a b);rw [<- hS] at HD |-;have tq:=zH (show S 0=0 by rw [hS];rfl)
 have HSS:=zH (show ∀ k,S (k+1)=(S k+a.getD k 0%p*(b.getD k 0%p)%p)%p from fun k=>by rw [hS];rfl)
 have HNA:=zH mi;have Sw:=zH Rq;have LS:min (n:Int) (n:Int)=n:=Int.min_self _;unfold fv at *;have kf:=Blk.new w 224 #[vd vn p];have da:vA w.1.size w (w.alloc (.cells #[vd vn p] 224)):=(za _ _).alloc zR _;clear hS mi Rq hp ha hb hac hax Ed;go_enter func294,ntmps294
 go_wp2_with fail
 generalize w.alloc _=w1 at kf da |-;refine (HV.out _).mono ?_;rintro e w2 ⟨rfl,ta⟩;replace kf:=ia kf ta;replace da:=ma da ta;clear ta;go_wp2_with fail
 go_loopw [7,17] (fun s y wr=>∃ i:Nat,i <= n /\ y=vd vq i /\ s=vd vn (S i:Int) /\ Blk wr w.1.size 224 #[vd vn p] /\ vA w.1.size w wr) (fun _ y _=>n-(intOf y).toNat)
 case atStart=>exact ⟨0,Lb _,rfl,by rw [tq.out];rfl,kf,da⟩
 case round =>
  clear kf da;obtain ⟨i,hi,rfl,rfl,kf,da⟩:=hrel;by_cases ra:i<n
  ·have q1:(i:Int)<n:=by omega
   have q2:(0:Int)<=i:=by omega
   obtain ⟨b1,zr,rfl,vJ,Ad⟩:=Ie (l:=a) (A:=A) (by rw [<- HNA.out];exact hra) (j:=i) (by rw [<- HNA.out];exact ra)
   obtain ⟨b2,q2',rfl,Kp,Re⟩:=Ie (l:=b) (A:=B) (by rw [<- Sw.out];exact hrb) (j:=i) (by rw [<- Sw.out];exact ra)
   have c1:=(da.cell (p:=⟨b1,zr+i,vD⟩) vJ).trans Ad;have c2:=(da.cell (p:=⟨b2,q2'+i,vD⟩) Kp).trans Re;have Zy:=zH (HSS.out i);obtain ⟨x,hx⟩:=zEX (a.getD i 0);obtain ⟨y,hy⟩:=zEX (b.getD i 0);rw [<- hx] at c1 Zy;rw [<- hy] at c2 Zy;obtain ⟨x1,Yc⟩:=zEX (x%p);obtain ⟨y1,de⟩:=zEX (y%p);obtain ⟨z,hz⟩:=zEX (x1*y1%p);obtain ⟨s,hs⟩:=zEX (S i);obtain ⟨s1,yd⟩:=zEX ((s+z)%p);rw [<- Yc,<- de,<- hz,<- hs,<- yd] at Zy;have HX:=zH (fun w=>by have:=HR.out x w;rw [<- Yc] at this;exact this)
   have HY:=zH (fun w=>by have:=HR.out y w;rw [<- de] at this;exact this)
   have HZ:=zH (fun w=>by have:=HM.out x1 y1 w (by rw [Yc];exact HL.out _) (by rw [de];exact HL.out _);rw [<- hz] at this;exact this)
   have HW:=zH (fun w=>by have:=HA.out s z w (by rw [hs];exact HD.out _) (by rw [hz];exact HL.out _);rw [<- yd] at this;exact this)
   rw [<- hs];have cf:=kf.cell;have lf:=kf.lt;clear hx hy Yc de hz hs yd Ad Re;have lb1:b1<wr.1.size:=mf _ _ c1;have lb2:b2<wr.1.size:=mf _ _ c2;go_upto_region 7 with fail
   refine Cd (Tb) [8,14,15,16] [0,1,2,3,4,5,6,7,9,10,11,12,13,8,14,15,16,17] (by kernel_rfl) (by kernel_rfl) ?_
   refine De (pa) ?_;intro Wc Ha ea;have Ja:=Tf Ha;refine Ob ?_;refine Gc (pa) rfl rfl rfl (fun _=>by go_simp <;> rfl) ((HX.out _).mono ?_)
   rintro e w4 ⟨rfl,ta⟩;refine ⟨_,rfl,ta,?_⟩;replace ea:=(pa).trans _ _ _ ea (ta);refine zPU ?_;refine Ob ?_;refine Gc (pa) rfl rfl rfl (fun _=>by go_simp <;> rfl) ((HY.out _).mono ?_)
   rintro e w5 ⟨rfl,Ps⟩;refine ⟨_,rfl,Ps,?_⟩;replace ea:=(pa).trans _ _ _ ea (Ps);refine zPU ?_;refine Ob ?_;refine Gc (pa) rfl rfl rfl (fun _=>by go_simp <;> rfl) ((HZ.out _).mono ?_)
   rintro e w6 ⟨rfl,hbz⟩;refine ⟨_,rfl,hbz,?_⟩;replace ea:=(pa).trans _ _ _ ea (hbz);refine zPU ?_;refine Ob ?_;refine Gc (pa) rfl rfl rfl (fun _=>by go_simp <;> rfl) ((HW.out _).mono ?_)
   rintro e w7 ⟨rfl,Fb⟩;refine ⟨_,rfl,Fb,?_⟩;replace ea:=(pa).trans _ _ _ ea (Fb);refine zPU ?_;refine Ob ?_;refine Qc ?_;have Sx:=ma (ma (ma (ma Ja ta) Ps) hbz) Fb;replace kf:=ia kf Sx;replace da:=ma da Sx;clear Sx Ja ta Ps hbz Fb ea Ha cf lf c1 c2 lb1 lb2;go_wp2_with fail
   go_roundw
   case rel=>exact ⟨i+1,by omega,by go_num,by rw [Zy.out],kf,da⟩
   case measure=>simp [intOf];omega
  ·obtain rfl:i=n:=by omega
   have q1:¬((i:Int)<i):=by omega
   go_wp2;go_ret
   exact ⟨rfl,da⟩
def xz (A:Option vy) (c t m:Nat):vx:=ve (if c=t then A else Option.map (fun x=>x.add t) A) (m-t) (c-t)
theorem zFS (L:Ra) (A:Option vy) (n c x y z:Nat) (w:vw) (hL:Rb L) (hx:x=L.a) (hy:y=L.a+L.b) (hz:z=L.a+L.b+L.b) (hn:z <= n) (He:n <= c) (hm:c <= maxLen) :
  vB prog 295 #[vf (Db L),ve A n c] w fun e w'=>e=vl (.tuple #[ve A x c,xz A c x y,xz A c y z,xz A c z n]) /\ vA w.1.size w w':=by
 have Vs:=hL.a;have Qq:=hL.b;have gm:(c:Int) <= 9223372036854775807:=by
  simp [maxLen] at hm
  omega
 have e1:(L.a:Int)+L.b=(y:Int):=by omega
 have e2:=Ce y;have e3:(y:Int)+L.b=(z:Int):=by omega
 have e4:=Ce z;have i0:(0:Int)<=x:=by omega
 have i1:(x:Int)<=y:=by omega
 have i2:(y:Int)<=z:=by omega
 have i3:(z:Int)<=n:=by omega
 have i4:(n:Int)<=c:=by omega
 have i5:(x:Int)<=c:=by omega
 have i6:(y:Int)<=c:=by omega
 have i7:(z:Int)<=c:=by omega
 have i8:(0:Int)<=y:=by omega
 have i9:(0:Int)<=z:=by omega
 have da:vA w.1.size w (w.alloc (.cells #[vd vn L.p,vd vq L.block,vd vq L.queries,vd vq L.k,vd vq L.n,vd vq L.secret,vd vq L.rows,vd vq L.a,vd vq L.b,vd vq L.b,vd vq L.b] 101)):=(za _ _).alloc zR _;have kl:=Blk.new w 101 #[vd vn L.p,vd vq L.block,vd vq L.queries,vd vq L.k,vd vq L.n,vd vq L.secret,vd vq L.rows,vd vq L.a,vd vq L.b,vd vq L.b,vd vq L.b];clear hL Vs Qq hn hy hz He hm;subst hx;unfold Db xz;obtain ⟨B1,Md⟩:=zEX ((if c=L.a then A else Option.map (fun x=>x.add L.a) A))
 obtain ⟨B2,Kh⟩:=zEX ((if c=y then A else Option.map (fun x=>x.add y) A))
 obtain ⟨B3,su⟩:=zEX ((if c=z then A else Option.map (fun x=>x.add z) A))
 obtain ⟨n1,Ge⟩:=zEX (y-L.a);obtain ⟨n2,Wd⟩:=zEX (z-y);obtain ⟨n3,Fm⟩:=zEX (n-z);obtain ⟨c1,Ad⟩:=zEX (c-L.a);obtain ⟨c2,Re⟩:=zEX (c-y);obtain ⟨c3,Lh⟩:=zEX (c-z);rw [<- Md,<- Kh,<- su,<- Ge,<- Wd,<- Fm,<- Ad,<- Re,<- Lh];have HX:=zH (And.intro Md (And.intro Kh (And.intro su (And.intro Ge (And.intro Wd (And.intro Fm (And.intro Ad (And.intro Re Lh))))))));clear Md Kh su Ge Wd Fm Ad Re Lh;go_enter func295,ntmps295
 go_upto_region 1 with fail
 generalize w.alloc _=w1 at kl da |-;have cl:=kl.cell;go_upto_region 4 with fail
 refine Cd (Tb) [] [0,1,2,3,4,5,6,7,8,9,10,11,12,13,14,15,16,17] (by kernel_rfl) (by kernel_rfl) ?_
 refine De (pa) ?_;intro Wc Ha ea;have Ja:=Tf Ha;refine Ob ?_;refine Qc ?_;obtain ⟨Md,Kh,su,Ge,Wd,Fm,Ad,Re,Lh⟩:=HX.out;rw [<- Md,<- Kh,<- su,<- Ge,<- Wd,<- Fm,<- Ad,<- Re,<- Lh];clear Md Kh su Ge Wd Fm Ad Re Lh;go_wp2;exact ed (v:=.tuple #[ve A L.a c,ve B1 n1 c1,ve B2 n2 c2,ve B3 n3 c3]) (by simp [results,results295,go_sem]) rfl ⟨rfl,ma da Ja⟩
theorem zFR (L:Ra) (A:Option vy) (n c x y z:Nat) (w:vw) (hL:Rb L) (hx:x=L.a) (hy:y=L.a+L.b) (hz:z=L.a+L.b+L.b) (hn:z <= n) (He:n <= c) (hm:c <= maxLen) :
  vB prog 146 #[vf (Db L),ve A n c] w fun e w'=>e=vl (.tuple #[ve A x c,xz A c x y,xz A c y z,xz A c z n]) /\ vA w.1.size w w':=by
 have Vs:=hL.a;have Qq:=hL.b;have gm:(c:Int) <= 9223372036854775807:=by
  simp [maxLen] at hm
  omega
 have e1:(L.a:Int)+L.b=(y:Int):=by omega
 have e2:=Ce y;have e3:(y:Int)+L.b=(z:Int):=by omega
 have e4:=Ce z;have i0:(0:Int)<=x:=by omega
 have i1:(x:Int)<=y:=by omega
 have i2:(y:Int)<=z:=by omega
 have i3:(z:Int)<=n:=by omega
 have i4:(n:Int)<=c:=by omega
 have i5:(x:Int)<=c:=by omega
 have i6:(y:Int)<=c:=by omega
 have i7:(z:Int)<=c:=by omega
 have i8:(0:Int)<=y:=by omega
 have i9:(0:Int)<=z:=by omega
 have da:vA w.1.size w (w.alloc (.cells #[vd vn L.p,vd vq L.block,vd vq L.queries,vd vq L.k,vd vq L.n,vd vq L.secret,vd vq L.rows,vd vq L.a,vd vq L.b,vd vq L.b,vd vq L.b] 101)):=(za _ _).alloc zR _;have kl:=Blk.new w 101 #[vd vn L.p,vd vq L.block,vd vq L.queries,vd vq L.k,vd vq L.n,vd vq L.secret,vd vq L.rows,vd vq L.a,vd vq L.b,vd vq L.b,vd vq L.b];clear hL Vs Qq hn hy hz He hm;subst hx;unfold Db xz;obtain ⟨B1,Md⟩:=zEX ((if c=L.a then A else Option.map (fun x=>x.add L.a) A))
 obtain ⟨B2,Kh⟩:=zEX ((if c=y then A else Option.map (fun x=>x.add y) A))
 obtain ⟨B3,su⟩:=zEX ((if c=z then A else Option.map (fun x=>x.add z) A))
 obtain ⟨n1,Ge⟩:=zEX (y-L.a);obtain ⟨n2,Wd⟩:=zEX (z-y);obtain ⟨n3,Fm⟩:=zEX (n-z);obtain ⟨c1,Ad⟩:=zEX (c-L.a);obtain ⟨c2,Re⟩:=zEX (c-y);obtain ⟨c3,Lh⟩:=zEX (c-z);rw [<- Md,<- Kh,<- su,<- Ge,<- Wd,<- Fm,<- Ad,<- Re,<- Lh];have HX:=zH (And.intro Md (And.intro Kh (And.intro su (And.intro Ge (And.intro Wd (And.intro Fm (And.intro Ad (And.intro Re Lh))))))));clear Md Kh su Ge Wd Fm Ad Re Lh;go_enter func146,ntmps146
 go_upto_region 1 with fail
 generalize w.alloc _=w1 at kl da |-;have cl:=kl.cell;go_upto_region 4 with fail
 refine Cd (Tb) [] [0,1,2,3,4,5,6,7,8,9,10,11,12,13,14,15,16,17] (by kernel_rfl) (by kernel_rfl) ?_
 refine De (pa) ?_;intro Wc Ha ea;have Ja:=Tf Ha;refine Ob ?_;refine Qc ?_;obtain ⟨Md,Kh,su,Ge,Wd,Fm,Ad,Re,Lh⟩:=HX.out;rw [<- Md,<- Kh,<- su,<- Ge,<- Wd,<- Fm,<- Ad,<- Re,<- Lh];clear Md Kh su Ge Wd Fm Ad Re Lh;go_wp2;exact ed (v:=.tuple #[ve A L.a c,ve B1 n1 c1,ve B2 n2 c2,ve B3 n3 c3]) (by simp [results,results146,go_sem]) rfl ⟨rfl,ma da Ja⟩
def Jh (l:List Nat) (n p:Nat):Bool:=decide (l.length=n)&&l.all fun x=>decide (x<p)
theorem zA4 (x p B:Nat) (w:vw) (hc:w.cell? ⟨B,0,vD⟩=vE (vd vn p)) :
  vB prog 213 #[vd vn x, .pointer (vE ⟨B,0,vD⟩)] w fun e w'=>e=vl (.bool (decide (p <= x))) /\ vA w.1.size w w':=by
 obtain ⟨v,hv⟩:=zEX (decide (p <= x));have e1:decide ((p:Int)<=x)=v:=by rw [hv];by_cases h:p <= x <;> simp [h]
 rw [<- hv];have HV:=zH hv.symm;clear hv;go_enter func213,ntmps213
 go_wp2_with fail
 go_ret
 exact ⟨by first | rfl | (simp [HV.out]),za _ _⟩
theorem nW {l:List Nat} {p i:Nat} (h:(l.take i).all (fun x=>decide (x<p))=true) (hi:i<l.length) (hx:¬p <= l.getD i 0):(l.take (i+1)).all (fun x=>decide (x<p))=true:=by
 rw [JJ l i hi,List.all_append,h];have:decide (l.getD i 0<p)=true:=yb (by omega)
 rw [List.all_cons,this]
 rfl
theorem mW {l:List Nat} {p i:Nat} (hi:i<l.length) (hx:p <= l.getD i 0):l.all (fun x=>decide (x<p))=false:=by
 rw [bz];refine ⟨l.getD i 0,?_,by rw [decide_eq_true_iff];omega⟩
 rw [Jb,oc hi];exact wg _
theorem zB3 (A:Option vy) (n c p B:Nat) (l:List Nat) (w:vw) (hl:RWd w [ve A n c] l) (hc:w.cell? ⟨B,0,vD⟩=vE (vd vn p)) :
  vB prog 278 #[ve A n c, .func (.func 213) #[] #[.pointer (vE ⟨B,0,vD⟩)]] w fun e w'=>∃ r:Int,e=vl (vd vq r) /\ decide (0 <= r)=!(l.all fun x=>decide (x<p)) /\ vA w.1.size w w':=by
 obtain ⟨rfl,h1,h2,ra,Ma⟩:=Qb hl;have gm:=Tl h1 h2;have lB:B<w.1.size:=mf _ _ hc;have HX:=zH (fun x w' (hb:vA w.1.size w w')=>zA4 x p B w' ((hb.cell (p:=⟨B,0,vD⟩) lB).trans hc))
 clear hl h1 h2 ra hc lB;obtain ⟨ans,ha⟩:=zEX (!(l.all fun x=>decide (x<p)))
 rw [<- ha];have HA:=zH ha;clear ha;go_enter func278,ntmps278
 go_wp2_with fail
 go_loopw [5,8] (fun _ y wr=>∃ i:Nat,i <= l.length /\ y=vd vq i /\ Hid ((l.take i).all (fun x=>decide (x<p))=true) /\ vA w.1.size w wr) (fun _ y _=>l.length-(intOf y).toNat)
 case atStart=>exact ⟨0,Lb _,rfl,rfl,za _ _⟩
 case round =>
  obtain ⟨i,hi,rfl,HT,Ab⟩:=hrel;by_cases ra:i<l.length
  ·have g1:(0:Int)<=i:=by omega
   have g2:(i:Int)<l.length:=by omega
   obtain ⟨b,q,rfl,Gb,hc⟩:=Ie (Ma.below Ab) ra;by_cases hx:p <= l.getD i 0
   ·have HF:=zH (show ans=true by rw [HA.out,mW ra hx];rfl)
    have HC:=zH (by have:=HX.out (l.getD i 0) wr Ab;rw [yb hx] at this;exact this)
    generalize l.getD i 0=z at *;clear hx HT;go_wp2_with fail
    refine HC.out.mono ?_;rintro e w1 ⟨rfl,Ca⟩;go_wp2;go_ret
    exact ⟨_,rfl,by rw [HF.out];exact yb g1,ma Ab Ca⟩
   ·have aB:=zH (nW HT.out ra hx)
    have HC:=zH (by have:=HX.out (l.getD i 0) wr Ab;rw [xb hx] at this;exact this)
    generalize l.getD i 0=z at *;clear hx HT;go_wp2_with fail
    refine HC.out.mono ?_;rintro e w1 ⟨rfl,Ca⟩;replace Ab:=ma Ab Ca;clear hc Ca Gb;go_wp2
    go_roundw
    case rel=>exact ⟨i+1,by omega,by go_num,aB.out,Ab⟩
    case measure=>simp [intOf];omega
  ·obtain rfl:i=l.length:=by omega
   have HF:=zH (show ans=false by rw [HA.out];have:=HT.out;rw [Cp] at this;rw [this];rfl)
   go_wp2;go_ret
   exact ⟨_,rfl,by rw [HF.out];rfl,Ab⟩
theorem zAD (A:Option vy) (n c p B:Nat) (l:List Nat) (w:vw) (hl:RWd w [ve A n c] l) (hc:w.cell? ⟨B,0,vD⟩=vE (vd vn p)) :
  vB prog 212 #[ve A n c, .func (.func 213) #[] #[.pointer (vE ⟨B,0,vD⟩)]] w fun e w'=>e=vl (.bool (!(l.all fun x=>decide (x<p)))) /\ vA w.1.size w w':=by
 have HI:=zH (zB3 A n c p B l w hl hc);clear hl hc;generalize (!(l.all fun x=>decide (x<p)))=ans at *
 go_enter func212,ntmps212
 go_wp2_with fail
 refine HI.out.mono ?_;rintro e w1 ⟨r,rfl,hr,Ca⟩;go_wp2;go_ret
 exact ⟨by first | rfl | (simp [hr]),Ca⟩
theorem iL (A:Option vy) (n c m p:Nat) (l:List Nat) (w:vw) (hl:RWd w [ve A n c] l) :
  vB prog 120 #[ve A n c,vd vq m,vd vn p] w fun e w'=>e=vl (.bool (Jh l m p)) /\ vA w.1.size w w':=by
 have tk:vA w.1.size w (w.alloc (.cells #[vd vn p] 22)):=(za _ _).alloc zR _;have kb:=Blk.new w 22 #[vd vn p];have HC:=zH (zAD A n c p w.1.size l (w.alloc (.cells #[vd vn p] 22)) (Bb tk hl) (by rw [kb.cell];rfl))
 obtain ⟨rfl,h1,h2,ra,Ma⟩:=Qb hl;clear hl h1 h2 ra Ma kb;have HE:=zH (show Jh l m p=(decide (l.length=m)&&l.all fun x=>decide (x<p)) from rfl)
 by_cases hm:l.length=m
 ·have HF:=zH (show Jh l m p=l.all fun x=>decide (x<p) by rw [HE.out,yb hm];rfl)
  have t1:((l.length:Int)==m)=true:=by rw [Hh];omega
  rw [HF.out];clear hm HF HE;generalize l.length=n at *;generalize (l.all fun x=>decide (x<p))=v at *
  go_enter func120,ntmps120
  go_wp2_with fail
  refine HC.out.mono ?_;rintro e w1 ⟨rfl,Ca⟩;go_wp2;go_ret
  exact ⟨by cases v <;> rfl,ma tk Ca⟩
 ·have HF:=zH (show Jh l m p=false by rw [HE.out,xb hm];rfl)
  have t1:((l.length:Int)==m)=false:=by rw [pd];omega
  rw [HF.out];clear hm HF HE HC;generalize l.length=n at *;go_enter func120,ntmps120
  go_wp2_with fail
  go_ret
  exact ⟨rfl,tk⟩
def Cg (p:Nat) (x y:Int):Prop:=(p:Int)∣x-y
theorem Cg.rfl' {p:Nat} {x:Int}:Cg p x x:=⟨0,by omega⟩
theorem Cg.of_eq {p:Nat} {x y:Int} (h:x=y):Cg p x y:=h ▸ Cg.rfl'
theorem Cg.symm {p:Nat} {x y:Int} (h:Cg p x y):Cg p y x:=by
 obtain ⟨c,hc⟩:=h;exact ⟨-c,by rw [Int.mul_neg,<- hc];omega⟩
theorem Cg.trans {p:Nat} {x y z:Int} (h:Cg p x y) (h2:Cg p y z):Cg p x z:=by
 obtain ⟨c,hc⟩:=h;obtain ⟨d,hd⟩:=h2;exact ⟨c+d,by rw [Int.mul_add,<- hc,<- hd];omega⟩
theorem Cg.add {p:Nat} {x y u v:Int} (h:Cg p x y) (h2:Cg p u v):Cg p (x+u) (y+v):=by
 obtain ⟨c,hc⟩:=h;obtain ⟨d,hd⟩:=h2;exact ⟨c+d,by rw [Int.mul_add,<- hc,<- hd];omega⟩
theorem Cg.mul {p:Nat} {x y u v:Int} (h:Cg p x y) (h2:Cg p u v):Cg p (x*u) (y*v):=by
 obtain ⟨c,hc⟩:=h;obtain ⟨d,hd⟩:=h2;refine ⟨c*u+y*d,?_⟩;have e:x*u-y*v=(x-y)*u+y*(u-v):=by rw [Int.sub_mul,Int.mul_sub];omega
 rw [e,hc,hd,Int.mul_add,qo,<- qo y,Yj y (p:Int),qo]
theorem Cg.neg {p:Nat} {x y:Int} (h:Cg p x y):Cg p (-x) (-y):=by
 obtain ⟨c,hc⟩:=h;exact ⟨-c,by rw [Int.mul_neg,<- hc];omega⟩
theorem Cg.mod {p:Nat} (x:Nat):Cg p ((x%p:Nat):Int) (x:Int):=by
 refine ⟨-((x / p:Nat):Int),?_⟩;have h:=au x p;have h2:((p*(x / p)+x%p:Nat):Int)=(x:Int):=by rw [h]
 rw [Al,ig] at h2;rw [Int.mul_neg];omega
theorem Cg.pow {p:Nat} {x y:Int} (h:Cg p x y) (k:Nat):Cg p (x^k) (y^k):=by
 induction k with
 | zero=>exact Cg.of_eq (by rw [Int.pow_zero,Int.pow_zero])
 | succ k ih=>rw [Xi,Xi];exact ih.mul h
theorem Cg.eq {p a b:Nat} (h:Cg p (a:Int) (b:Int)) (ha:a<p) (hb:b<p):a=b:=by
 obtain ⟨c,hc⟩:=h;rcases Int.lt_trichotomy c 0 with h1 | h1 | h1
 ·have:(p:Int)*c <= (p:Int)*(-1):=Int.mul_le_mul_of_nonneg_left (by omega) (by omega)
  omega
 ·subst h1;omega
 ·have:(p:Int)*1 <= (p:Int)*c:=Int.mul_le_mul_of_nonneg_left (by omega) (by omega)
  omega
def Cb (a:Nat -> Int) (x:Int):Nat -> Int
 | 0=>0
 | n+1=>Cb a x n+a n*x^n
theorem Co {p:Nat} {a b:Nat -> Int} {x y:Int} (h:∀ i,Cg p (a i) (b i)) (hx:Cg p x y):∀ n,Cg p (Cb a x n) (Cb b y n)
 | 0=>Cg.rfl'
 | n+1=>(Co h hx n).add ((h n).mul (hx.pow n))
theorem CR (a:Nat -> Int) (x:Int):∀ n,Cb a x (2*n)=Cb (fun i=>a (2*i)) (x*x) n+x*Cb (fun i=>a (2*i+1)) (x*x) n
 | 0=>by simp [Cb]
 | n+1=>by
  have e:(x*x)^n=x^(2*n):=by rw [ph];congr 1;rw [Xi,Xi,Int.pow_zero,bn]
  show Cb a x (2*n)+a (2*n)*x^(2*n)+a (2*n+1)*x^(2*n+1)=_
  rw [CR a x n];show _=(Cb (fun i=>a (2*i)) (x*x) n+a (2*n)*(x*x)^n)+x*(Cb (fun i=>a (2*i+1)) (x*x) n+a (2*n+1)*(x*x)^n)
  rw [e,Xi]
  grind
theorem oP (p w:Nat):∀ k,Cg p (yr p w k:Int) ((w:Int)^k)
 | 0=>Cg.rfl'
 | k+1=>by
  show Cg p ((yr p w k*w%p:Nat):Int) _
  refine (Cg.mod _).trans ?_;rw [ig,Xi];exact (oP p w k).mul Cg.rfl'
theorem UC (p a:Nat) (hp:0<p):Cg p (Rf p a:Int) (-(a:Int)):=by
 have h1:Cg p ((a%p:Nat):Int) (a:Int):=Cg.mod a;refine Cg.trans ?_ h1.neg;have h:=ic a hp;unfold Rf;split
 ·rename_i h0
  rw [h0];exact Cg.rfl'
 ·exact ⟨1,by omega⟩
theorem GN (p:Nat) (hp:0<p):∀ (j:Nat) (a:Nat -> Nat) (w:Nat),(j=0 \/ Cg p ((w:Int)^(2^(j-1))) (-1)) -> ∀ k,k<2^j -> Cg p (Lj p j a w k:Int) (Cb (fun i=>(a i:Int)) ((w:Int)^k) (2^j))
 | 0,a,w,_,k,hk=>by
  obtain rfl:k=0:=by omega
  show Cg p (a 0:Int) _
  exact Cg.of_eq (by simp [Cb])
 | j+1,a,w,hw,k,hk=>by
  have Vk:Cg p ((w:Int)^(2^j)) (-1):=by
   rcases hw with h | h
   ·omega
   ·exact h
  have iF:j=0 \/ Cg p (((w*w%p:Nat):Int)^(2^(j-1))) (-1):=by
   rcases xo j with h | h
   ·exact Or.inl h
   ·refine Or.inr (((Cg.mod (p:=p) (w*w)).pow _).trans ?_)
    have e:((w*w:Nat):Int)^(2^(j-1))=(w:Int)^(2^j):=by
     rw [ig,show 2^j=2*2^(j-1) by rw [Fe,<- Ig];congr 1;omega,ph]
     congr 1
     rw [Xi,Xi,Int.pow_zero,bn]
    rw [e];exact Vk
  have key:∀ i,i<2^j -> ∀ x:Int,Cg p (x*x) (((w:Int)^i)*((w:Int)^i)) -> Cg p ((Lj p j (fun i=>a (2*i)) (w*w%p) i:Int)+x*(Lj p j (fun i=>a (2*i+1)) (w*w%p) i:Int)) (Cb (fun i=>(a i:Int)) x (2^(j+1))):=by
   intro i hi x hx;have e0:Cg p (((w*w%p:Nat):Int)^i) (x*x):=by
    refine ((Cg.mod (p:=p) (w*w)).pow _).trans (Cg.trans (Cg.of_eq ?_) hx.symm);rw [ig,Int.mul_pow]
   have h1:=(GN p hp j (fun i=>a (2*i)) (w*w%p) iF i hi).trans (Co (fun _=>Cg.rfl') e0 _)
   have h2:=(GN p hp j (fun i=>a (2*i+1)) (w*w%p) iF i hi).trans (Co (fun _=>Cg.rfl') e0 _)
   rw [show 2^(j+1)=2*2^j by rw [Ig,Fe],CR]
   exact h1.add (Cg.rfl'.mul h2)
  rw [Lj];simp only [];split
  ·rename_i ra
   refine (Cg.mod _).trans (Cg.trans ?_ (key k ra ((w:Int)^k) Cg.rfl'));rw [Al];refine Cg.rfl'.add ((Cg.mod _).trans ?_);rw [ig];exact (oP p w k).mul Cg.rfl'
  ·rename_i EE
   obtain ⟨i,rfl⟩:∃ i,k=2^j+i:=⟨k-2^j,by omega⟩
   have hi:i<2^j:=by rw [Ig] at hk;omega
   rw [DG];have ex:Cg p ((w:Int)^(2^j+i)) (-((w:Int)^i)):=by
    rw [Int.pow_add];refine (Vk.mul Cg.rfl').trans (Cg.of_eq (by omega))
   refine (Cg.mod _).trans (Cg.trans ?_ (key i hi ((w:Int)^(2^j+i)) ?_))
   ·rw [Al]
    refine Cg.rfl'.add ((UC p _ hp).trans ?_);refine ((Cg.mod _).neg).trans ?_;rw [ig];refine (((oP p w i).mul Cg.rfl').neg).trans ?_;rw [<- Int.neg_mul];exact ex.symm.mul Cg.rfl'
   ·refine (ex.mul ex).trans (Cg.of_eq ?_)
    rw [Int.neg_mul_neg]
def zA (p:Nat):Nat -> Nat -> Nat -> Nat
 | 0,_,_=>1
 | f+1,b,e=>if e%2=1 then b*zA p f (b*b%p) (e / 2)%p else zA p f (b*b%p) (e / 2)
theorem yM (p:Nat):∀ (f b e:Nat),e<2^f -> Cg p (zA p f b e:Int) ((b:Int)^e)
 | 0,b,e,h=>by
  obtain rfl:e=0:=by omega
  exact Cg.of_eq (by simp [zA])
 | f+1,b,e,h=>by
  have h2:e / 2<2^f:=by rw [Ig] at h;omega
  have ih:=(yM p f (b*b%p) (e / 2) h2).trans ((Cg.mod (p:=p) (b*b)).pow _);have e1:((b*b:Nat):Int)^(e / 2)=(b:Int)^(2*(e / 2)):=by
   rw [ig,ph]
   congr 1
   rw [Xi,Xi,Int.pow_zero,bn]
  rw [e1] at ih;rw [zA];split
  ·rename_i h1
   refine (Cg.mod _).trans ?_;rw [ig,show (b:Int)^e=(b:Int)*b^(2*(e / 2)) by rw [Yj,<- Xi];congr 1;omega]
   exact Cg.rfl'.mul ih
  ·rw [show 2*(e / 2)=e by omega] at ih
   exact ih
theorem zBL {p:Nat} (h:Ib p=true):zA p 64 (Mb p).1 ((p-1) / 2)=p-1 /\ (p-1)%2=0 /\ (p-1) / 2<2^64:=by
 rcases Bt h with rfl | rfl | rfl | rfl | rfl | rfl | rfl <;> decide +kernel
theorem zBM {p:Nat} (h:Ib p=true):Cg p (((Mb p).1:Int)^((p-1) / 2)) (-1):=by
 obtain ⟨h1,-,h3⟩:=zBL h;have h4:=yM p 64 (Mb p).1 ((p-1) / 2) h3;rw [h1] at h4;refine h4.symm.trans ⟨1,?_⟩;have:=(Nb h).1;omega
theorem DP {p n j:Nat} (h:Ib p=true) (hn:dk p n) (hj:n=2^j):j=0 \/ Cg p ((ye p n:Int)^(2^(j-1))) (-1):=by
 rcases xo j with h0 | h0
 ·exact Or.inl h0
 ·right
  refine ((Cg.mod (p:=p) _).pow _).trans (Cg.trans (Cg.of_eq ?_) (zBM h));rw [xp,<- ph]
  congr 1
  have e:n=2*2^(j-1):=by rw [hj,Fe,<- Ig];congr 1;omega
  have hd:=hn.dvd;have Kl:=hn.pos;obtain ⟨q,hq⟩:∃ q,p-1=n*q:=⟨(p-1) / n,by have:=au (p-1) n;omega⟩
  rw [hq,Nat.mul_div_cancel_left _ (by omega),e,Nat.mul_assoc,Nat.mul_div_cancel_left _ (by omega),Fe]
theorem Y7 {p:Nat} (h:Ib p=true):zA p 64 2 (p-1)=1 /\ zA p 64 (Mb p).1 (p-1)=1 /\ p-1<2^64:=by
 rcases Bt h with rfl | rfl | rfl | rfl | rfl | rfl | rfl <;> decide +kernel
theorem zGn {p:Nat} (h:Ib p=true):Cg p ((2:Int)^(p-1)) 1:=by
 obtain ⟨h1,-,h3⟩:=Y7 h;have h4:=yM p 64 2 (p-1) h3;rw [h1] at h4;exact h4.symm
theorem kH {p:Nat} (h:Ib p=true):Cg p (((Mb p).1:Int)^(p-1)) 1:=by
 obtain ⟨-,h1,h3⟩:=Y7 h;have h4:=yM p 64 (Mb p).1 (p-1) h3;rw [h1] at h4;exact h4.symm
theorem zCj {p n j:Nat} (h:Ib p=true) (hj:n=2^j):Cg p ((n:Int)*((n^(p-2)%p:Nat):Int)) 1:=by
 have hp:=Nb h;refine (Cg.rfl'.mul (Cg.mod _)).trans ?_;have e:(n:Int)*((n^(p-2):Nat):Int)=((2:Int)^(p-1))^j:=by
  rw [xp,hj,xp,Yj,<- Xi,<- ph,<- ph,Nat.succ_eq_add_one,show p-2+1=p-1 by omega,Fe]
  rfl
 rw [e];refine ((zGn h).pow j).trans (Cg.of_eq ?_);exact Int.one_pow
theorem EP {p n:Nat} (h:Ib p=true) (hn:dk p n):Cg p ((ye p n:Int)^n) 1:=by
 refine ((Cg.mod (p:=p) _).pow _).trans (Cg.trans (Cg.of_eq ?_) (kH h));rw [xp,<- ph]
 congr 1
 have hd:=hn.dvd;have:=au (p-1) n;rw [Fe];omega
theorem iT {p n:Nat} (h:Ib p=true) (hn:dk p n):Cg p ((ye p n:Int)*((ye p n^(p-2)%p:Nat):Int)) 1:=by
 have hp:=Nb h;refine (Cg.rfl'.mul (Cg.mod _)).trans ?_;have e:(ye p n:Int)*((ye p n^(p-2):Nat):Int)=((ye p n:Int)^n)^((p-1) / n):=by
  have hd:=hn.dvd;have h2:=au (p-1) n;rw [xp,Yj,<- Xi,<- ph]
  congr 1
  omega
 rw [e];exact ((EP h hn).pow _).trans (Cg.of_eq Int.one_pow)
theorem BX {p:Nat}:∀ (j:Nat) (x:Int) (t:Nat),t<j -> Cg p (x^(2^t)) (-1) -> Cg p (Cb (fun _=>1) x (2^j)) 0
 | 0,_,t,ht,_=>absurd ht (Nat.not_lt_zero t)
 | j+1,x,t,ht,hx=>by
  rw [show 2^(j+1)=2*2^j by rw [Ig,Fe],CR]
  show Cg p (Cb (fun _=>1) (x*x) (2^j)+x*Cb (fun _=>1) (x*x) (2^j)) 0
  cases t with
  | zero =>
   rw [Nat.pow_zero,Xi,Int.pow_zero,bn] at hx;exact (Cg.rfl'.add (hx.mul Cg.rfl')).trans (Cg.of_eq (by omega))
  | succ t =>
   have ih:=BX j (x*x) t (by omega) (by
    refine Cg.trans (Cg.of_eq ?_) hx;rw [show x*x=x^2 by rw [Xi,Xi,Int.pow_zero,bn],<- ph]
    congr 1
    rw [Ig,Fe])
   exact (ih.add (Cg.rfl'.mul ih)).trans (Cg.of_eq (by omega))
theorem J0:∀ o:Nat,(-1:Int)^(2*o+1)=-1
 | 0=>by decide
 | o+1=>by rw [show 2*(o+1)+1=(2*o+1)+1+1 by omega,Xi,Xi,J0 o];decide
theorem X6 {p:Nat}:∀ (j:Nat) (w:Int) (d:Nat),Cg p (w^(2^(j-1))) (-1) -> 0<d -> d<2^j -> ∃ t,t<j /\ Cg p ((w^d)^(2^t)) (-1)
 | 0,_,d,_,h0,h1=>by omega
 | j+1,w,d,hw,h0,h1=>by
  rcases Nat.mod_two_eq_zero_or_one d with h | h
  ·obtain ⟨e,rfl⟩:∃ e,d=2*e:=⟨d / 2,by omega⟩
   have hj:j≠0:=by rintro rfl;omega
   have he:e<2^j:=by rw [Ig] at h1;omega
   obtain ⟨t,ht,hc⟩:=X6 j (w^2) e (by
    refine Cg.trans (Cg.of_eq ?_) hw;rw [<- ph]
    congr 1
    show 2*2^(j-1)=2^j
    rw [Fe,<- Ig]
    congr 1
    omega) (by omega) he
   exact ⟨t,by omega,by rw [ph (a:=w)];exact hc⟩
  ·obtain ⟨o,rfl⟩:∃ o,d=2*o+1:=⟨d / 2,by omega⟩
   refine ⟨j,by omega,?_⟩
   rw [<- ph,Fe,ph];exact (Cg.pow hw _).trans (Cg.of_eq (J0 o))
theorem DU {p j d:Nat} {w:Int} (hw:Cg p (w^(2^(j-1))) (-1)) (h0:0<d) (h1:d<2^j):Cg p (Cb (fun _=>1) (w^d) (2^j)) 0:=by
 obtain ⟨t,ht,hc⟩:=X6 j w d hw h0 h1;exact BX j _ t ht hc
def Na (f:Nat -> Int):Nat -> Int
 | 0=>0
 | n+1=>Na f n+f n
theorem uv (a:Nat -> Int) (x:Int):∀ n,Cb a x n=Na (fun i=>a i*x^i) n
 | 0=>rfl
 | n+1=>by rw [Cb,Na,uv a x n]
theorem ui {p:Nat} {f g:Nat -> Int}:∀ n,(∀ i,i<n -> Cg p (f i) (g i)) -> Cg p (Na f n) (Na g n)
 | 0,_=>Cg.rfl'
 | n+1,h=>(ui n fun i hi=>h i (by omega)).add (h n (by omega))
theorem Ey (c:Int) (f:Nat -> Int):∀ n,c*Na f n=Na (fun i=>c*f i) n
 | 0=>by simp [Na]
 | n+1=>by rw [Na,Na,Int.mul_add,Ey c f n]
theorem lK (f g:Nat -> Int):∀ n,Na (fun i=>f i+g i) n=Na f n+Na g n
 | 0=>rfl
 | n+1=>by rw [Na,Na,Na,lK f g n];omega
theorem jD:∀ n,Na (fun _=>0) n=0
 | 0=>rfl
 | n+1=>by rw [Na,jD n];rfl
theorem CA (f:Nat -> Nat -> Int) (m:Nat):∀ n,Na (fun i=>Na (fun k=>f i k) m) n=Na (fun k=>Na (fun i=>f i k) n) m
 | 0=>by simp only [Na];rw [jD]
 | n+1=>by
  rw [Na,CA f m n,<- lK]
  rfl
theorem z7 {p n q:Nat} {f:Nat -> Int} {y:Int} (hq:q<n) (h0:∀ k,k<n -> k≠q -> Cg p (f k) 0) (h1:Cg p (f q) y):Cg p (Na f n) y:=by
 induction n with
 | zero=>omega
 | succ n ih =>
  rw [Na];by_cases e:q=n
  ·subst e
   have hz:Cg p (Na f q) (Na (fun _=>0) q):=ui q fun i hi=>h0 i (by omega) (by omega)
   rw [jD] at hz;exact (hz.add h1).trans (Cg.of_eq (by omega))
  ·exact ((ih (by omega) fun k hk Ta=>h0 k (by omega) Ta).add (h0 n (by omega) (by omega))).trans (Cg.of_eq (by omega))
theorem wR:∀ n:Nat,Cb (fun _=>1) 1 n=(n:Int)
 | 0=>rfl
 | n+1=>by rw [Cb,wR n,Int.one_pow];omega
theorem jY {p j:Nat} {w v:Int} (hw:Cg p (w^(2^(j-1))) (-1)) (hv:Cg p (w*v) 1):Cg p (v^(2^(j-1))) (-1):=by
 have h1:=hv.pow (2^(j-1));rw [Int.mul_pow,Int.one_pow] at h1;have h2:=((hw.mul (Cg.rfl' (x:=v^(2^(j-1))))).symm.trans h1).neg;exact Cg.trans (Cg.of_eq (by omega)) h2
theorem oO {p:Nat} {w v:Int} (hv:Cg p (w*v) 1) (q:Nat):Cg p (v^q*w^q) 1:=by
 rw [<- Int.mul_pow,Yj v w];exact (hv.pow q).trans (Cg.of_eq Int.one_pow)
theorem zCf {p n j:Nat} (m:Nat -> Int) (w v s:Int) (hn:n=2^j) (hw:j=0 \/ Cg p (w^(2^(j-1))) (-1)) (hv:Cg p (w*v) 1) (hs:Cg p ((n:Int)*s) 1) (q:Nat) (hq:q<n) :
  Cg p (Cb (fun i=>s*Cb m (v^i) n) (w^q) n) (m q):=by
 have hx:∀ k,k<n -> k≠q -> Cg p (Cb (fun _=>1) (v^k*w^q) n) 0:=by
  intro k hk Ta;have hj:j≠0:=by rintro rfl;omega
  have Vk:Cg p (w^(2^(j-1))) (-1):=hw.resolve_left hj;rcases Nat.lt_or_gt_of_ne Ta with h | h
  ·have e:Cg p (v^k*w^q) (w^(q-k)):=by
    obtain ⟨d,rfl⟩:∃ d,q=k+d:=⟨q-k,by omega⟩
    rw [DG,Int.pow_add,<- qo];exact ((oO hv k).mul Cg.rfl').trans (Cg.of_eq (bn _))
   rw [hn];exact (Co (fun _=>Cg.rfl') e _).trans (DU Vk (by omega) (by omega))
  ·have e:Cg p (v^k*w^q) (v^(k-q)):=by
    obtain ⟨d,rfl⟩:∃ d,k=q+d:=⟨k-q,by omega⟩
    rw [DG,Int.pow_add,qo,Yj (v^d),<- qo];exact ((oO hv q).mul Cg.rfl').trans (Cg.of_eq (bn _))
   rw [hn];exact (Co (fun _=>Cg.rfl') e _).trans (DU (jY Vk hv) (by omega) (by omega))
 have pj:Cg p (Cb (fun _=>1) (v^q*w^q) n) (n:Int):=(Co (fun _=>Cg.rfl') (oO hv q) n).trans (Cg.of_eq (wR n))
 have e1:Cb (fun i=>s*Cb m (v^i) n) (w^q) n=Na (fun k=>s*m k*Cb (fun _=>1) (v^k*w^q) n) n:=by
  rw [uv];have e2:(fun i=>s*Cb m (v^i) n*(w^q)^i)=fun i=>Na (fun k=>s*m k*(v^k*w^q)^i) n:=by
   funext i
   rw [uv,Yj (s*_),<- qo,Ey]
   congr 1
   funext k
   rw [Int.mul_pow,<- ph (a:=v),<- ph (a:=v),Fe i k]
   grind
  rw [e2,CA]
  congr 1
  funext k
  rw [uv,Ey]
  congr 1
  funext i
  rw [bn]
 rw [e1];refine z7 hq (fun k hk Ta=>?_) ?_
 ·exact (Cg.rfl'.mul (hx k hk Ta)).trans (Cg.of_eq (Int.mul_zero _))
 ·refine (Cg.rfl'.mul pj).trans (Cg.trans (Cg.of_eq (y:=(n:Int)*s*m q) (by grind)) ?_)
  exact (hs.mul Cg.rfl').trans (Cg.of_eq (bn _))
theorem mO {p n j:Nat} (l:List Nat) (h:Ib p=true) (hn:dk p n) (hj:n=2^j) {i:Nat} (hi:i<n) :
  Cg p (Im p n j l i:Int) (((n^(p-2)%p:Nat):Int)*Cb (fun k=>((l.getD k 0:Nat):Int)) (((ye p n^(p-2)%p:Nat):Int)^i) n):=by
 have hp:=Nb h;have hv:j=0 \/ Cg p (((ye p n^(p-2)%p:Nat):Int)^(2^(j-1))) (-1):=(DP h hn hj).imp id fun h1=>jY h1 (iT h hn)
 have h1:=GN p (by omega) j (EI p l) (ye p n^(p-2)%p) hv i (by omega)
 rw [<- hj] at h1;refine (Cg.mod _).trans ?_;rw [ig,Yj];exact Cg.rfl'.mul (h1.trans (Co (fun k=>Cg.mod _) Cg.rfl' n))
theorem yX {p:Nat} {a b:Nat -> Int} (x:Int):∀ n,(∀ i,i<n -> Cg p (a i) (b i)) -> Cg p (Cb a x n) (Cb b x n)
 | 0,_=>Cg.rfl'
 | n+1,h=>(yX x n fun i hi=>h i (by omega)).add ((h n (by omega)).mul Cg.rfl')
theorem eT {p n j:Nat} (l:List Nat) (h:Ib p=true) (hn:dk p n) (hj:n=2^j) {q:Nat} (hq:q<n) :
  Cg p (Cb (fun i=>(Im p n j l i:Int)) ((ye p n:Int)^q) n) ((l.getD q 0:Nat):Int) :=
 (yX _ n fun _ hi=>mO l h hn hj hi).trans (zCf (fun k=>((l.getD k 0:Nat):Int)) _ _ _ hj (DP h hn hj) (iT h hn) (zCj h hj) q hq)
theorem zAf (x p B:Nat) (w:vw) (hc:w.cell? ⟨B,0,vD⟩=vE (vd vn p)) :
  vB prog 293 #[vd vn x, .pointer (vE ⟨B,0,vD⟩)] w fun e w'=>e=vl (.bool (decide (p <= x))) /\ vA w.1.size w w':=by
 obtain ⟨v,hv⟩:=zEX (decide (p <= x));have e1:decide ((p:Int)<=x)=v:=by rw [hv];by_cases h:p <= x <;> simp [h]
 rw [<- hv];have HV:=zH hv.symm;clear hv;go_enter func293,ntmps293
 go_wp2_with fail
 go_ret
 exact ⟨by first | rfl | (simp [HV.out]),za _ _⟩
theorem zAc (A:Option vy) (n c p B:Nat) (l:List Nat) (w:vw) (hl:RWd w [ve A n c] l) (hc:w.cell? ⟨B,0,vD⟩=vE (vd vn p)) :
  vB prog 278 #[ve A n c, .func (.func 293) #[] #[.pointer (vE ⟨B,0,vD⟩)]] w fun e w'=>∃ r:Int,e=vl (vd vq r) /\ decide (0 <= r)=!(l.all fun x=>decide (x<p)) /\ vA w.1.size w w':=by
 obtain ⟨rfl,h1,h2,ra,Ma⟩:=Qb hl;have gm:=Tl h1 h2;have lB:B<w.1.size:=mf _ _ hc;have HX:=zH (fun x w' (hb:vA w.1.size w w')=>zAf x p B w' ((hb.cell (p:=⟨B,0,vD⟩) lB).trans hc))
 clear hl h1 h2 ra hc lB;obtain ⟨ans,ha⟩:=zEX (!(l.all fun x=>decide (x<p)))
 rw [<- ha];have HA:=zH ha;clear ha;go_enter func278,ntmps278
 go_wp2_with fail
 go_loopw [5,8] (fun _ y wr=>∃ i:Nat,i <= l.length /\ y=vd vq i /\ Hid ((l.take i).all (fun x=>decide (x<p))=true) /\ vA w.1.size w wr) (fun _ y _=>l.length-(intOf y).toNat)
 case atStart=>exact ⟨0,Lb _,rfl,rfl,za _ _⟩
 case round =>
  obtain ⟨i,hi,rfl,HT,Ab⟩:=hrel;by_cases ra:i<l.length
  ·have g1:(0:Int)<=i:=by omega
   have g2:(i:Int)<l.length:=by omega
   obtain ⟨b,q,rfl,Gb,hc⟩:=Ie (Ma.below Ab) ra;by_cases hx:p <= l.getD i 0
   ·have HF:=zH (show ans=true by rw [HA.out,mW ra hx];rfl)
    have HC:=zH (by have:=HX.out (l.getD i 0) wr Ab;rw [yb hx] at this;exact this)
    generalize l.getD i 0=z at *;clear hx HT;go_wp2_with fail
    refine HC.out.mono ?_;rintro e w1 ⟨rfl,Ca⟩;go_wp2;go_ret
    exact ⟨_,rfl,by rw [HF.out];exact yb g1,ma Ab Ca⟩
   ·have aB:=zH (nW HT.out ra hx)
    have HC:=zH (by have:=HX.out (l.getD i 0) wr Ab;rw [xb hx] at this;exact this)
    generalize l.getD i 0=z at *;clear hx HT;go_wp2_with fail
    refine HC.out.mono ?_;rintro e w1 ⟨rfl,Ca⟩;replace Ab:=ma Ab Ca;clear hc Ca Gb;go_wp2
    go_roundw
    case rel=>exact ⟨i+1,by omega,by go_num,aB.out,Ab⟩
    case measure=>simp [intOf];omega
  ·obtain rfl:i=l.length:=by omega
   have HF:=zH (show ans=false by rw [HA.out];have:=HT.out;rw [Cp] at this;rw [this];rfl)
   go_wp2;go_ret
   exact ⟨_,rfl,by rw [HF.out];rfl,Ab⟩
theorem zAb (A:Option vy) (n c p B:Nat) (l:List Nat) (w:vw) (hl:RWd w [ve A n c] l) (hc:w.cell? ⟨B,0,vD⟩=vE (vd vn p)) :
  vB prog 212 #[ve A n c, .func (.func 293) #[] #[.pointer (vE ⟨B,0,vD⟩)]] w fun e w'=>e=vl (.bool (!(l.all fun x=>decide (x<p)))) /\ vA w.1.size w w':=by
 have HI:=zH (zAc A n c p B l w hl hc);clear hl hc;generalize (!(l.all fun x=>decide (x<p)))=ans at *
 go_enter func212,ntmps212
 go_wp2_with fail
 refine HI.out.mono ?_;rintro e w1 ⟨r,rfl,hr,Ca⟩;go_wp2;go_ret
 exact ⟨by first | rfl | (simp [hr]),Ca⟩
theorem iN (L:Ra) (A:Option vy) (n c:Nat) (l:List Nat) (w:vw) (hl:RWd w [ve A n c] l) :
  vB prog 251 #[vf (Db L),ve A n c] w fun e w'=>e=vl (.bool (l.all fun x=>decide (x<L.p))) /\ vA w.1.size w w':=by
 unfold Db;have tk:vA w.1.size w (w.alloc (.cells #[vd vn L.p,vd vq L.block,vd vq L.queries,vd vq L.k,vd vq L.n,vd vq L.secret,vd vq L.rows,vd vq L.a,vd vq L.b,vd vq L.b,vd vq L.b] 101)):=(za _ _).alloc zR _;have kb:=Blk.new w 101 #[vd vn L.p,vd vq L.block,vd vq L.queries,vd vq L.k,vd vq L.n,vd vq L.secret,vd vq L.rows,vd vq L.a,vd vq L.b,vd vq L.b,vd vq L.b];have HC:=zH (zAb A n c L.p w.1.size l (w.alloc (.cells #[vd vn L.p,vd vq L.block,vd vq L.queries,vd vq L.k,vd vq L.n,vd vq L.secret,vd vq L.rows,vd vq L.a,vd vq L.b,vd vq L.b,vd vq L.b] 101)) (Bb tk hl) (by rw [kb.cell];rfl))
 clear hl kb;generalize (l.all fun x=>decide (x<L.p))=v at *
 go_enter func251,ntmps251
 go_wp2_with fail
 refine HC.out.mono ?_;rintro e w1 ⟨rfl,Ca⟩;go_wp2;go_ret
 exact ⟨by cases v <;> rfl,ma tk Ca⟩
def yv (L:Ra) (a b c:List Nat):Bool :=
 decide (a.length=L.k)&&decide (b.length=L.k+L.block-1)&&decide (c.length=2*L.k-1)&&(a.all fun x=>decide (x<L.p))&&(b.all fun x=>decide (x<L.p))&&(c.all fun x=>decide (x<L.p))
theorem TX (L:Ra) (A B C:Option vy) (n1 c1 n2 c2 n3 c3:Nat) (a b c:List Nat) (w:vw) (hL:Rb L) (ha:RWd w [ve A n1 c1] a) (hb:RWd w [ve B n2 c2] b) (hc:RWd w [ve C n3 c3] c) (hn:n1=a.length /\ n2=b.length /\ n3=c.length) :
  vB prog 247 #[vf (Db L),ve A n1 c1,ve B n2 c2,ve C n3 c3] w fun e w'=>e=vl (.bool (yv L a b c)) /\ vA w.1.size w w':=by
 obtain ⟨rfl,rfl,rfl⟩:=hn;have Ca:=hL.b1;have Aa:=hL.b2;have pj:=hL.q1;have Tp:=hL.q2;have hk:=hL.k;have HA:=zH (fun w' (h:vA w.1.size w w')=>iN L A a.length c1 a w' (Bb h ha))
 have HB:=zH (fun w' (h:vA w.1.size w w')=>iN L B b.length c2 b w' (Bb h hb))
 have HC:=zH (fun w' (h:vA w.1.size w w')=>iN L C c.length c3 c w' (Bb h hc))
 obtain ⟨t1,iy⟩:=zEX (L.k+L.block);obtain ⟨t2,WH⟩:=zEX (L.k+L.block-1);obtain ⟨t3,ht3⟩:=zEX (2*L.k);obtain ⟨t4,ht4⟩:=zEX (2*L.k-1);have e1:(L.k:Int)+L.block=(t1:Int):=by omega
 have e2:=Ce t1;have e3:(t1:Int)-1=(t2:Int):=by omega
 have e4:=Ce t2;have e5:(2:Int)*L.k=(t3:Int):=by omega
 have e6:=Ce t3;have e7:(t3:Int)-1=(t4:Int):=by omega
 have e8:=Ce t4;have HE:=zH (show yv L a b c=(decide (a.length=L.k)&&decide (b.length=t2)&&decide (c.length=t4)&&(a.all fun x=>decide (x<L.p))&&(b.all fun x=>decide (x<L.p))&&(c.all fun x=>decide (x<L.p))) by rw [WH,ht4];rfl)
 clear iy WH ht3 ht4 Ca Aa pj Tp hk hL ha hb hc;generalize (a.all fun x=>decide (x<L.p))=b1 at *
 generalize (b.all fun x=>decide (x<L.p))=b2 at *
 generalize (c.all fun x=>decide (x<L.p))=b3 at *
 obtain ⟨R,hR⟩:=zEX (yv L a b c);rw [<- hR] at HE |-;clear hR;generalize a.length=n1 at *;generalize b.length=n2 at *;generalize c.length=n3 at *;unfold Db at *;have da:vA w.1.size w (w.alloc (.cells #[vd vn L.p,vd vq L.block,vd vq L.queries,vd vq L.k,vd vq L.n,vd vq L.secret,vd vq L.rows,vd vq L.a,vd vq L.b,vd vq L.b,vd vq L.b] 101)):=(za _ _).alloc zR _;have kl:=Blk.new w 101 #[vd vn L.p,vd vq L.block,vd vq L.queries,vd vq L.k,vd vq L.n,vd vq L.secret,vd vq L.rows,vd vq L.a,vd vq L.b,vd vq L.b,vd vq L.b];by_cases h1:n1=L.k
 rotate_left
 ·have d1:((n1:Int)!=L.k)=true:=by simp;omega
  have HF:=zH (show R=false by rw [HE.out,xb h1];rfl)
  clear h1 HE HA HB HC;go_enter func247,ntmps247
  go_wp2;go_ret
  exact ⟨by rw [HF.out];rfl,da⟩
 have d1:((n1:Int)!=L.k)=false:=by simp;omega
 by_cases h2:n2=t2
 rotate_left
 ·have d2:((n2:Int)!=t2)=true:=by simp;omega
  have HF:=zH (show R=false by rw [HE.out,xb h2];simp)
  clear h1 h2 HE HA HB HC;go_enter func247,ntmps247
  go_wp2;go_ret
  exact ⟨by rw [HF.out];rfl,da⟩
 have d2:((n2:Int)!=t2)=false:=by simp;omega
 by_cases h3:n3=t4
 rotate_left
 ·have d3:((n3:Int)!=t4)=true:=by simp;omega
  have HF:=zH (show R=false by rw [HE.out,xb h3];simp)
  clear h1 h2 h3 HE HA HB HC;go_enter func247,ntmps247
  go_wp2;go_ret
  exact ⟨by rw [HF.out];rfl,da⟩
 have d3:((n3:Int)!=t4)=false:=by simp;omega
 have HF:=zH (show R=(b1&&b2&&b3) by rw [HE.out,yb h1,yb h2,yb h3];rfl)
 clear h1 h2 h3 HE;go_enter func247,ntmps247
 go_wp2_with fail
 generalize w.alloc _=w1 at kl da |-;refine (HA.out _ da).mono ?_;rintro e w2 ⟨rfl,ta⟩;replace kl:=ia kl ta;replace da:=ma da ta;clear ta;cases b1
 ·go_wp2
  go_ret
  exact ⟨by rw [HF.out];rfl,da⟩
 have cl:=kl.cell;go_wp2_with fail
 refine (HB.out _ da).mono ?_;rintro e w3 ⟨rfl,ta⟩;replace kl:=ia kl ta;replace da:=ma da ta;clear ta cl;cases b2
 ·go_wp2
  go_ret
  exact ⟨by rw [HF.out];rfl,da⟩
 have cl:=kl.cell;go_wp2_with fail
 refine (HC.out _ da).mono ?_;rintro e w4 ⟨rfl,ta⟩;go_wp2;go_ret
 exact ⟨by rw [HF.out];simp,ma da ta⟩
theorem KU {w:vw} {base n:Nat} {v:vx} {l:List Nat} (h:w.ownsRow base 22 1 v n (Ia l)) (hl:∀ x∈l,x<18446744073709551616):∃ A c,v=ve A n c /\ RWd w [ve A n c] l:=by
 obtain ⟨A,c,rfl,-⟩:=ud h;exact ⟨A,c,rfl,Om h hl⟩
theorem WR.bytes {w:vw} {g:Nat} {bd:Nat × Nat} {l:List Nat} {f:Bool} (h:WR w g bd l f):∀ x∈l,x<256:=by
 obtain ⟨A,n,c,p,L,hb,hr,hA,hp,hn,rfl,hL⟩:=h;exact fun x hx=>hL x (List.mem_of_mem_drop hx)
theorem WR.lt {w:vw} {g:Nat} {bd:Nat × Nat} {l:List Nat} {f:Bool} (h:WR w g bd l f):g<w.1.size:=by
 obtain ⟨A,n,c,p,L,hb,_⟩:=h;exact hb.lt
theorem WR.drew {w:vw} {g:Nat} {bd:Nat × Nat} {l:List Nat} {f:Bool} (h:WR w g bd l f):WR w.drew g bd l f:=h
theorem WR.drewN {w:vw} {g:Nat} {bd:Nat × Nat} {l:List Nat} {f:Bool} (h:WR w g bd l f) (k:Nat):WR (w.drewN k) g bd l f:=h
theorem WR.grown {w w':vw} {g:Nat} {bd:Nat × Nat} {l:List Nat} {f:Bool} {row:Option Nat} (h:WR w g bd l f) (hg:w.grownBy w' row) (hr:∀ k,row=vE k -> k≠g /\ (bd.2 <= k \/ k<bd.1)):WR w' g bd l f:=by
 obtain ⟨A,n,c,p,L,hb,xk,hA,hp,hn,rfl,hL⟩:=h;refine ⟨A,n,c,p,L,hb.grown hg fun e=>(hr g e.symm).1 rfl,xk.grown hg fun ad e1 e2=>?_,hA,hp,hn,rfl,hL⟩
 have h1:=(hr _ e2.symm).2;have h2:=hA.1 ad e1;omega
theorem WR.below {w w':vw} {g B:Nat} {bd:Nat × Nat} {l:List Nat} {f:Bool} (h:WR w g bd l f) (hb:vA B w w') (hB:w.1.size <= B):WR w' g bd l f :=
 h.grown (row:=vD) ⟨hb.os,hb.tape,hb.output,hb.size,fun k hk _=>hb.block k (by omega)⟩ fun k hk=>by cases hk
theorem WR.free {w:vw} {g:Nat} {bd:Nat × Nat} {l:List Nat} {f:Bool} (h:WR w g bd l f) (i:Nat):w.frozen? ⟨g,i,vD⟩=false:=by
 obtain ⟨A,n,c,p,L,hb,_⟩:=h;exact hb.frozen i
theorem zCk {P:Program} {f:FuncId} {fn:Func} {s:ChangeSpec} {c:OpenClaim}
  (k1:(c.wf (OpenSpec.ofChange s))=true)
  (k2:(laidOutB P)=true)
  (k3:(mapsRowed P)=true)
  (k4:(fn.params.all (P.readableRec ·))=true)
  (k5:(namedTie P c.named s.vars)=true)
  (k6:((c.stops == []))=true)
  (k7:((P.stops == []))=true)
  (k8:((c.knobs == []))=true)
  (k9:((P.stopKnobs == []))=true)
  (k10:((c.inPlace == P.inPlace f))=true)
  (k11:((c.unfollowed == P.unfollowed f))=true)
  (k12:((c.recurses == P.recurses f))=true)
  (ny:((c.named == P.varsNamed f))=true)
  (Zz:((c.maps == (fn.params.toList++s.plain.varTypes P).any (P.mapsRec ·)))=true)
  (Jm:((c.ifaces == (fn.params.toList++s.plain.varTypes P).any (P.ifacesRec ·)))=true)
  (Bu:((c.mapsOut == P.mapsAmong fn.resultTypes.toList))=true)
  (k17:((c.loops == (fn.params.toList++s.plain.varTypes P).any (P.loopsFrom ·)))=true)
  (k18:((c.wideKeys == (fn.params.toList++s.plain.varTypes P++fn.resultTypes.toList).any (P.wideKeysFrom ·)))=true)
  (k19:(s.vars.all (P.varReadable ·))=true)
  (k20:(fn.resultTypes.all (fun t=>P.readableRec t&&decide (t<P.types.size)))=true)
  (Km:((c.ifacesOut == fn.resultTypes.toList.any (P.ifacesRec ·)))=true)
  (k22:((c.loopsOut == fn.resultTypes.toList.any (P.loopsFrom ·)))=true)
  (k23:((c.plainKeys == P.plainKeys))=true)
  (k24:(c.shortTexts.isNone)=true)
  (k25:(P.stopsHeard)=true)
  (Lm:(P.mayEnter)=true)
  (k27:((c.lifted == P.liftsFinal))=true)
  (Po:((P.make == vE c.make))=true)
  (k29:((c.kinds == (if c.domain.isEmpty then [] else fn.params.toList.map fun t=>match P.underlying t with | some (.int k)=>vE k | _=>vD)))=true)
  (k30:((c.pinned == c.pinnedBy))=true)
  (k31:((c.veiled == (fn.params.toList++s.plain.varTypes P++fn.resultTypes.toList).any (P.veiledRec ·)))=true)
  (k32:(c.veiledFits P fn.params.toList (fn.params.toList++s.plain.varTypes P++fn.resultTypes.toList))=true)
  : joinedFacts P f fn s c=true:=by
 unfold joinedFacts;simp only [Cc];exact ⟨⟨⟨⟨⟨⟨⟨⟨⟨⟨⟨⟨⟨⟨⟨⟨⟨⟨⟨⟨⟨⟨⟨⟨⟨⟨⟨⟨⟨⟨⟨k1,k2⟩,k3⟩,k4⟩,k5⟩,k6⟩,k7⟩,k8⟩,k9⟩,k10⟩,k11⟩,k12⟩,ny⟩,Zz⟩,Jm⟩,Bu⟩,k17⟩,k18⟩,k19⟩,k20⟩,Km⟩,k22⟩,k23⟩,k24⟩,k25⟩,Lm⟩,k27⟩,Po⟩,k29⟩,k30⟩,k31⟩,k32⟩
end Go.Proofs.YteoghgbnielkpaaGreat
