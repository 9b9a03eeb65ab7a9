/- A part of the proof. No condition. -/
import Derived.Test.YteoghgbnielkpaaGreatTB4
import Derived.Deep.AppendLies

set_option maxRecDepth 100000
set_option maxHeartbeats 8000000
set_option linter.unusedVariables false
set_option linter.unusedSimpArgs false
namespace Go.Proofs.YteoghgbnielkpaaGreat
open Go.RowKit
open Tryz
open Go renaming World->vw, Value->vx, Addr->vy, Calls->vB
open Go.Value renaming int->vd, slice->ve, agg->vf
open Go.IntKind renaming u64->vn, i64->vq
open Go.Ending renaming returned->vl
open Go.RowKit renaming Below->vA
open Go.Act renaming put->vG
open Option renaming none->vD, some->vE
theorem zC0:prog.cellsOf 30=8:=by kernel_rfl
theorem zC2:prog.cellsOf 27=3:=by kernel_rfl
structure tS (w:vw) (p:Nat) (pub vars:Int) (A B:Option vy) (n c m d:Nat) (rows:List Ua) (ws:List Nat):Prop where
 p:p<18446744073709551616
 rows:RSl 3 je w [ve A n c] rows
 ws:RWd w [ve B m d] ws
theorem zEs {w:vw} {cs:List vx} (hl:cs.length=8) (h:Fits prog w 30 cs):∃ (p:Nat) (pub vars:Int) (A B:Option vy) (n c m d:Nat) (rows:List Ua) (ws:List Nat) (bl bw qs:Int),cs=(VO p pub vars (ve A n c) bl bw qs (ve B m d)).toList /\ tS w p pub vars A B n c m d rows ws:=by
 match cs,hl with
 | [x0,x1,x2,x3,x4,x5,x6,x7],_ =>
  obtain ⟨t,y,ht,h1,h2,h3,h4⟩:=zEo rfl (pn (i:=0) underlying30 rfl rfl zC5 h);have hx:=pn (i:=1) underlying30 rfl rfl zC2 h;obtain ⟨a,ha,-⟩:=KK Hu (pn (i:=0) underlying27 rfl rfl ZH hx);obtain ⟨b,hb,-⟩:=KK Hu (pn (i:=1) underlying27 rfl rfl ZH hx);obtain ⟨e,he,-⟩:=KK Hu (pn (i:=2) underlying27 rfl rfl ZH hx);obtain ⟨ws,hw⟩:=zEp underlying28 underlying22 uM (pn (i:=2) underlying30 rfl rfl zC7 h);simp at ht ha hb he hw
  obtain ⟨rfl,rfl,rfl,rfl⟩:=ht;subst ha hb he;obtain ⟨A,n,c,rfl⟩:=RSl.slc h4;have Qw:=hw;obtain ⟨B,m,d,he,-⟩:=hw;simp at he
  subst he;exact ⟨t.p,t.pub,t.vars,A,B,n,c,m,d,t.rows,ws,a,b,e,rfl,h1,h4,Qw⟩
def Ug:List Nat -> Nat
 | []=>0
 | x :: r=>x+256*Ug r
theorem UX:∀ (l:List Nat),(∀ x∈l,x<256) -> Ug l<256^l.length
 | [],_=>by simp [Ug]
 | x :: r,h=>by
  have h1:=h x zS;have h2:=UX r fun y hy=>h y (by simp [hy])
  rw [Ug,Jg,Sf];omega
theorem zBI:∀ (l:List Nat) (x:Nat),Ug (l++[x])=Ug l+256^l.length*x
 | [],x=>by simp [Ug]
 | y :: r,x=>by
  rw [List.cons_append,Ug,zBI r x,Ug,Jg,Sf,Nat.mul_add,<- Nat.mul_assoc,ye 256 (256^r.length),Nat.add_assoc]
theorem zBJ {L:List Nat} {p:Nat} (h:∀ x∈L,x<256) (j:Nat):Ug ((L.drop p).take j)<256^j:=by
 have h1:=UX ((L.drop p).take j) fun x hx=>h x (List.mem_of_mem_drop (List.mem_of_mem_take hx))
 exact pd h1 (bn zO (by rw [Br];omega))
theorem zAi (j:Nat):(256:Nat)^j=2^(8*j):=by rw [Nat.pow_mul]
theorem CY {z y j:Nat} (hz:z<256^j) (hy:y<256) (hj:j<8):z+256^j*y<18446744073709551616:=by
 have h1:z+256^j*y<256^j*(y+1):=by rw [Nat.mul_add];omega
 have h2:256^j*(y+1) <= 256^j*256:=Nat.mul_le_mul_left _ zO;have h3:256^j*256=256^(j+1):=(Sf ..).symm;have h4:(256:Nat)^(j+1) <= 256^8:=bn zO zO;have h5:(256:Nat)^8=18446744073709551616:=by decide
 omega
theorem zGt (z y j:Nat) (hz:z<256^j) (hy:y<256) (hj:j<8):bits BinOp.or vn (z:Int) (vn.wrap ((y:Int)*2^(8*j)))=((z+256^j*y:Nat):Int):=by
 have h0:=CY hz hy hj;have e1:(y:Int)*2^(8*j)=((256^j*y:Nat):Int):=by rw [zAi,Qf,jo,ik];rfl
 rw [e1,Kj];have e2:(((256^j*y:Nat):Int))%18446744073709551616=((256^j*y:Nat):Int):=by omega
 rw [e2,bits_or_u64_nat _ _ zO zO]
 congr 1
 rw [zAi] at hz |-;have:=Nat.shiftLeft_add_eq_or_of_lt hz y;rw [Nat.shiftLeft_eq,ye y] at this;rw [Nat.or_comm,<- this,Nat.add_comm]
theorem zJE (L:List Nat) (p j y:Nat) (h:p+j<L.length) (hy:y=L[p+j]):Ug ((L.drop p).take j)+256^j*y=Ug ((L.drop p).take (j+1)):=by
 have hl:j<(L.drop p).length:=by rw [ti];omega
 rw [Lv hl,zBI,Br,Nat.min_eq_left (Nat.le_of_lt hl),List.getElem_drop,hy]
def WR (w:vw) (g:Nat) (bd:Nat × Nat) (l:List Nat) (f:Bool):Prop :=
 ∃ (A:Option vy) (n c p:Nat) (L:List Nat),Blk w g 340 #[ve A n c,vd vq p, .bool f] /\ Rd w 1 A n (U8 L) /\ ((∀ ad,A=vE ad -> bd.1 <= ad.block /\ ad.block<bd.2) /\ bd.2 <= g) /\ (p <= n /\ n <= c) /\ n <= 10000000 /\ L.drop p=l /\ ∀ x∈L,x<256
theorem L6 (g n c p:Nat) (A:Option vy) (f:Bool) (w:vw) (hb:Blk w g 340 #[ve A n c,vd vq p, .bool f]) (hp:p <= n) (hn:n <= 10000000) :
  vB prog 299 #[.pointer (vE ⟨g,0,vD⟩)] w fun e w'=>e=vl (vd vq ((n:Int)-p)) /\ ∃ k,w'=w.drewN k:=by
 have h0:=hb.cell 0;have h1:=hb.cell 1;simp at h0 h1
 clear hb;go_enter func299,ntmps299
 go_wp2_with fail
 go_quiet (fail)
 go_wp2;go_ret
 exact ⟨rfl,_,rfl⟩
def Lk (k:Nat) (l:List Nat) (f:Bool):Nat × Bool × List Nat × Bool :=
 if f=true \/ l.length<k then (0,false,l,true) else (Ug (l.take k),true,l.drop k,false)
theorem zDD (g:Nat) (bd:Nat × Nat) (k:Nat) (l:List Nat) (f:Bool) (w:vw) (h:WR w g bd l f) (hk:k <= 8) :
  vB prog 268 #[.pointer (vE ⟨g,0,vD⟩),vd vq k] w fun e w'=>e=vl (.tuple #[vd vn (Lk k l f).1, .bool (Lk k l f).2.1]) /\ WR w' g bd (Lk k l f).2.2.1 (Lk k l f).2.2.2 /\ w.grownBy w' (vE g):=by
 obtain ⟨A,n,c,p,L,hb,hr,hAb,cD,hn,rfl,hL⟩:=h;have hp:=cD.1;have hA:∀ ad,A=vE ad -> ad.block≠g:=fun ad e=>by have:=hAb.1 ad e;omega
 have h0:=hb.cell 0;have h1:=hb.cell 1;have h2:=hb.cell 2;have f2:=hb.frozen 2;have f1:=hb.frozen 1;simp at h0 h1 h2
 have hlen:=hr.len1;rw [DJ] at hlen;have HLn:=zH hlen;clear hlen;by_cases hf:f=true
 ·subst hf
  have HE:Hid (Lk k (L.drop p) true=(0,false,L.drop p,true)):=by simp [Hid,Lk]
  rw [HE.out];go_enter func268,ntmps268
  go_wp2
  go_ret2
  exact ⟨rfl,⟨A,n,c,p,L,by simpa using hb.set_ 2 (.bool true),hr.set_ (p:=⟨g,2,vD⟩) hA _,hAb,cD,hn,rfl,hL⟩,mh (p:=⟨g,2,vD⟩) (Ce _ _) (.inl rfl) _⟩
 ·have hf':f=false:=by simpa using hf
  subst hf';clear hf;by_cases hs:n-p<k
  ·have HE:Hid (Lk k (L.drop p) false=(0,false,L.drop p,true)):=by
    show _=_
    rw [Lk,Ka (.inr (by rw [ti,HLn.out];exact hs))]
   rw [HE.out];go_enter func268,ntmps268
   go_wp2_with (go_at_call 299;refine (L6 g n c p A false w hb hp hn).mono ?_;rintro e w1 ⟨rfl,kk,rfl⟩)
   go_ret2
   exact ⟨rfl,⟨A,n,c,p,L,by simpa using (hb.drewN kk).set_ 2 (.bool true),(hr.drewN kk).set_ (p:=⟨g,2,vD⟩) hA _,hAb,cD,hn,rfl,hL⟩,mh (p:=⟨g,2,vD⟩) (L4 (Ce _ _) _) (.inl rfl) _⟩
  ·have HE:Hid (Lk k (L.drop p) false=(Ug ((L.drop p).take k),true,(L.drop p).drop k,false)):=by
    show _=_
    rw [Lk,ya (by rw [ti,HLn.out];simp;omega)]
   rw [HE.out];go_enter func268,ntmps268
   go_wp2_with (go_at_call 299;refine (L6 g n c p A false w hb hp hn).mono ?_;rintro e w1 ⟨rfl,kk,rfl⟩)
   go_loopw [6,7,22] (fun y d i wr=>∃ j z m:Nat,j <= k /\ i=vd vq j /\ y=vd vn z /\ Hid (z=Ug ((L.drop p).take j)) /\ z<18446744073709551616 /\ wr=w.drewN m)
    (fun _ _ i _=>k-(intOf i).toNat)
   case atStart=>exact ⟨0,0,kk,Kb _,rfl,rfl,rfl,zO,rfl⟩
   case round =>
    obtain ⟨j,z,m,hj,rfl,rfl,HZ,hz,rfl⟩:=hrel;by_cases ta:j<k
    ·obtain ⟨ad,u,rfl,hu,hc⟩:=hr.at_ (show p+j<n by omega)
     have Di:p+j<L.length:=by rw [HLn.out];omega
     obtain ⟨y,hy⟩:=zEX (L[p+j]);have hyl:y<256:=by rw [hy];exact hL _ (He _)
     rw [at_U8 Di,<- hy] at hu
     injection hu with hu
     subst hu;have HY:=zH hy;clear hy;have i1:(0:Int)<=p+(j:Int):=by omega
     have i2:(p:Int)+j<(n:Int):=by omega
     have i3:((p:Int)+j).toNat=p+j:=by omega
     go_wp2_with fail
     go_quiet (fail)
     have HV:=zH (zGt z y j (by rw [HZ.out];exact zBJ hL j) hyl zO)
     have hz':z+256^j*y<18446744073709551616:=CY (by rw [HZ.out];exact zBJ hL j) hyl zO
     have HN:=zH (zJE L p j y Di HY.out);rw [<- HZ.out] at HN;clear hc hr hb hA hAb h0 h1 h2 i1 i2 i3 hL;go_wp2
     go_roundw
     case rel=>exact ⟨j+1,z+256^j*y,_,zO,by go_num,by rw [HV.out],HN.out,hz',rfl⟩
     case measure=>simp [intOf];omega
    ·have e:j=k:=by omega
     subst e;go_wp2
     go_ret2
     refine ⟨by rw [<- HZ.out];rfl,⟨A,n,c,p+j,L,by simpa using (hb.drewN m).set_ 1 (vd vq ((p:Int)+j)),(hr.drewN m).set_ (p:=⟨g,1,vD⟩) hA _,hAb,⟨zO,cD.2⟩,hn,by rw [Mj],hL⟩,mh (p:=⟨g,1,vD⟩) (L4 (Ce _ _) _) (.inl rfl) _⟩
def NJ (l:List Oper) (hs bars fs:List Nat):List Nat -> Array Bool -> Bool
 | [],Aa=>(Region.ready .any l.toArray Aa).isEmpty
 | i :: rest,Aa=>decide (i<l.length)&&(Region.ready .any l.toArray Aa).contains i &&
   (if hs.contains i then Region.ready .any l.toArray Aa == [i] else Region.free .any l.toArray Aa i&&!bars.contains i&&(Ld bars Aa||fs.contains i||bars.all fun b=>QL l b i))&&NJ l hs bars fs rest (Aa.setIfInBounds i true)
def mu (P:Program) (l:List Oper) (hs bars fs:List Nat) (Q:Exit -> Act -> vw -> Prop) (R:vw -> vw -> Prop) (order:List Nat) (Aa:Array Bool) (a:Act) (w:vw):Prop :=
 Region.noSelect l.toArray=true -> NJ l hs bars fs order Aa=true -> wpB P l.toArray Q bars R order.length Aa a w
section
variable {P:Program} {l:List Oper} {hs bars fs:List Nat} {Q:Exit -> Act -> vw -> Prop} {R:vw -> vw -> Prop} {rest:List Nat} {i:Nat} {o:Oper} {Aa:Array Bool} {a:Act} {w:vw}
theorem kY {id:Nat} (R:vw -> vw -> Prop) (hs bars fs order:List Nat) (hm:P.follows .mixedOrders=true) (Xa:(Region.noSelect l.toArray&&order.length == l.length&&NJ l hs bars fs order (List.replicate l.length false).toArray)=true)
  (h:mu P l hs bars fs Q R order (List.replicate l.length false).toArray a w.drew):(Code.region id l.toArray true).wp P Q a w:=by
 simp only [Vb,Dh] at Xa;refine wp_region_any hm (eY (bars:=bars) (S:=R w.drew) _ _ _ _ ?_);have h2:=h Xa.1.1 Xa.2;have e:Array.replicate l.toArray.size false=(List.replicate l.length false).toArray:=by simp
 rw [Xa.1.2] at h2;rw [e]
 simpa [wpB] using h2
theorem zCc (M:Pd R) {order:List Nat} (h:∀ W,R w W -> mu P l hs bars fs Q R order Aa a W):mu P l hs bars fs Q R order Aa a w:=h w (M.refl w)
theorem zJ3 (M:Pd R) {order:List Nat} (h:∀ W,Hid (W=w) -> R w W -> mu P l hs bars fs Q R order Aa a W):mu P l hs bars fs Q R order Aa a w:=h w rfl (M.refl w)
theorem lY (h:Q .normal a w):mu P l hs bars fs Q R [] Aa a w:=fun _ Xa=>⟨by simpa [NJ] using Xa,h⟩
theorem cR (h:NJ l hs bars fs (i :: rest) Aa=true):i<l.length /\ (Region.ready .any l.toArray Aa).contains i=true /\
  (hs.contains i=true -> Region.ready .any l.toArray Aa=[i]) /\
  (hs.contains i=false -> Region.free .any l.toArray Aa i=true /\ i ∉ bars /\ (Ld bars Aa=true \/ fs.contains i=true \/ ∀ b∈bars,QL l b i=true)) /\ NJ l hs bars fs rest (Aa.setIfInBounds i true)=true:=by
 unfold NJ at h;simp only [Vb,yo] at h;obtain ⟨⟨⟨h1,h2⟩,h3⟩,h4⟩:=h;refine ⟨h1,h2,fun h6=>?_,fun h6=>?_,h4⟩
 ·rw [Ka h6] at h3
  simpa using h3
 ·rw [ya (by rw [h6];exact Bool.noConfusion)] at h3
  simp only [Vb,Gl,Bool.or_eq_true,fe] at h3;refine ⟨h3.1.1,fun hm=>?_,by rcases h3.2 with (h | h) | h;exact .inl h;exact .inr (.inl h);exact .inr (.inr h)⟩
  have:=h3.1.2;simp [hm] at this
theorem zJ1 {v:vx} (M:Pd R) (hh:hs.contains i=false) (hf:fs.contains i=false) (ho:l[i]?=vE o) (hw:Region.wanted o (yielded l.toArray a.tmps)=true) (hQ:∀ c a w,Q (.panic c) (a.put o.dst v) w -> Q (.panic c) a w)
  (Tc:∀ w',(Ld bars Aa=false -> R w w') -> (execOp a.eval o).run P w'= .ok (.value v) w') (h:mu P l hs bars fs Q R rest (Aa.setIfInBounds i true) (a.put o.dst v) w):mu P l hs bars fs Q R (i :: rest) Aa a w:=by
 intro hn Xa;obtain ⟨h1,h2,-,h4,h5⟩:=cR Xa;obtain ⟨f1,f2,f3⟩:=h4 hh;have Ei:l.toArray[i]?=vE o:=by rw [qo];exact ho
 cases hp:Ld bars Aa
 ·refine mK (T:=R w) Ei (Ov hn) hQ f2 (.inr ⟨fun _ h=>h,fun b hb ob hob=>ZX hob ?_⟩) _ _ _ _ (.inr hp) (Region.free_spec Ei f1) (by simpa using h2) (.inl ⟨hw,fun w' hR=>Tc w' fun _=>hR⟩) (M.refl w) (fun _=>M.refl w) (h hn h5)
  rcases f3 with f3 | f3 | f3
  ·rw [hp] at f3;cases f3
  ·rw [hf] at f3;cases f3
  ·exact f3 b hb
 ·exact mK (T:=fun _=>True) Ei (Ov hn) hQ f2 (.inl fun _=>trivial) _ _ _ _ (.inl fun _=>trivial) (Region.free_spec Ei f1) (by simpa using h2) (.inl ⟨hw,fun w' _=>Tc w' fun h=>by rw [hp] at h;cases h⟩) trivial (fun _=>M.refl w) (h hn h5)
theorem zJ0 {v:vx} (M:Pd R) (hh:hs.contains i=false) (ho:l[i]?=vE o) (hw:Region.wanted o (yielded l.toArray a.tmps)=true) (hQ:∀ c a w,Q (.panic c) (a.put o.dst v) w -> Q (.panic c) a w)
  (Tc:∀ w',(execOp a.eval o).run P w'= .ok (.value v) w') (h:mu P l hs bars fs Q R rest (Aa.setIfInBounds i true) (a.put o.dst v) w):mu P l hs bars fs Q R (i :: rest) Aa a w:=by
 intro hn Xa;obtain ⟨h1,h2,-,h4,h5⟩:=cR Xa;obtain ⟨f1,f2,-⟩:=h4 hh;have Ei:l.toArray[i]?=vE o:=by rw [qo];exact ho
 exact mK (T:=fun _=>True) Ei (Ov hn) hQ f2 (.inl fun _=>trivial) _ _ _ _ (.inl fun _=>trivial) (Region.free_spec Ei f1) (by simpa using h2) (.inl ⟨hw,fun w' _=>Tc w'⟩) trivial (fun _=>M.refl w) (h hn h5)
theorem zJ2 (M:Pd R) (hh:hs.contains i=false) (ho:l[i]?=vE o) (hw:Region.wanted o (yielded l.toArray a.tmps)=false) (hQ:∀ c a w,Q (.panic c) (a.put o.dst undef) w -> Q (.panic c) a w)
  (h:mu P l hs bars fs Q R rest (Aa.setIfInBounds i true) (a.put o.dst undef) w):mu P l hs bars fs Q R (i :: rest) Aa a w:=by
 intro hn Xa;obtain ⟨h1,h2,-,h4,h5⟩:=cR Xa;obtain ⟨f1,f2,f3⟩:=h4 hh;have Ei:l.toArray[i]?=vE o:=by rw [qo];exact ho
 exact mK (T:=fun _=>True) Ei (Ov hn) hQ f2 (.inl fun _=>trivial) _ _ _ _ (.inl fun _=>trivial) (Region.free_spec Ei f1) (by simpa using h2) (.inr ⟨hw,rfl⟩) trivial (fun _=>M.refl w) (h hn h5)
theorem WL {a b:Prop} (h:a) (s:Imp a b:=by
 (repeat ((first | (apply Imp.via (zJ2 (oa) rfl rfl rfl (fun _ _ _ h=>h))) | (apply Imp.via (zJ1 (v:=?_) (oa) rfl rfl rfl rfl (fun _ _ _ h=>h) ?hr);case hr=>(intro w' hR;(first | have qn:=iL ((oa).trans _ _ _ ea (hR rfl)) | skip);clear hR;go_simp;try with_reducible rfl)) | (apply Imp.via (zJ0 (v:=?_) (oa) rfl rfl rfl (fun _ _ _ h=>h) ?hr);case hr=>(intro w';go_simp;try with_reducible rfl)));simp only [vG,zLa,zLb,zLc]))
 exact Imp.rfl'):b:=s h
theorem RL (M:Pd R) (hh:hs.contains i=true) (ho:l[i]?=vE o) (hw:Region.wanted o (yielded l.toArray a.tmps)=true)
  (h:o.wp P a w (fun a' w'=>(Ld bars (Aa.setIfInBounds i true)=false -> R w w') /\ mu P l hs bars fs Q R rest (Aa.setIfInBounds i true) a' w') Q):mu P l hs bars fs Q R (i :: rest) Aa a w:=by
 intro hn Xa;obtain ⟨h1,h2,h3,-,h5⟩:=cR Xa;have hr:=h3 hh;refine ⟨fun h0=>absurd (hr ▸ h0) zS,fun j hj=>?_⟩
 rw [hr,Zo] at hj;subst hj;unfold wpOp;have hi:l.toArray[j]?=vE o:=by rw [qo];exact ho
 simp only [hi,hw,if_true];refine .inl (Oper.wp_mono (fun a' w' h'=>⟨h'.1,?_⟩) h)
 have hk:=h'.2 hn h5;cases hp:Ld bars (Aa.setIfInBounds j true)
 ·exact dY (fun w2 h2=>M.trans _ _ _ (h'.1 hp) h2) _ _ _ _ hk
 ·exact cY _ _ _ _ hp hk
end
def Is (p w:Nat):Nat -> Nat
 | 0=>1
 | k+1=>Is p w k*w%p
def tk (p:Nat):Nat -> (Nat -> Nat) -> Nat -> Nat -> Nat
 | 0,a,_=>a
 | j+1,a,w=>fun k =>
  if k<2^j then (tk p j (fun i=>a (2*i)) (w*w%p) k+Is p w k*tk p j (fun i=>a (2*i+1)) (w*w%p) k%p)%p
  else (tk p j (fun i=>a (2*i)) (w*w%p) (k-2^j)+tg p (Is p w (k-2^j)*tk p j (fun i=>a (2*i+1)) (w*w%p) (k-2^j)%p))%p
def sB (F a:Nat -> Nat) (h i:Nat):Nat -> Nat:=fun k=>if k<i \/ (h <= k /\ k<h+i) then F k else a k
theorem zJy (n:Nat) (F a:Nat -> Nat) (h:Nat):Qa n (sB F a h 0)=Qa n a:=Ol fun k _=>by unfold sB;rw [ya zO]
theorem zJw (n:Nat) (F a:Nat -> Nat) (h:Nat) (hn:n=2*h):Qa n (sB F a h h)=Qa n F:=Ol fun k hk=>by unfold sB;rw [Ka zO]
theorem zJx {n h i v u k:Nat} {F a:Nat -> Nat} (hi:i<h) (hv:v=F i) (hk:k=i+h) (hu:u=F k):((Qa n (sB F a h i)).setIfInBounds i (vd vn v)).setIfInBounds k (vd vn u)=Qa n (sB F a h (i+1)):=by
 subst hv hu;rw [Lr,Lr];refine Ol fun m _=>?_
 simp only [Cf,sB];by_cases e1:m=k
 ·subst e1;rw [Ka rfl,Ka zO]
 ·rw [ya e1]
  by_cases e2:m=i
  ·subst e2;rw [Ka rfl,Ka zO]
  ·rw [ya e2]
   by_cases e3:m<i \/ (h <= m /\ m<h+i)
   ·rw [Ka e3,Ka zO]
   ·rw [ya e3,ya zO]
theorem zJG (p:Nat) (a:Nat -> Nat) (x g:Nat) (w:vw) (kg:Blk w g 22 (Qa 1 a)) :
  vB prog 222 #[fv p,ve (vE ⟨g,0,vD⟩) 1 1,vd vn x] w fun e w'=>e=vl (.tuple #[]) /\ Blk w' g 22 (Qa 1 a) /\ w.grownBy w' (vE g):=by
 have lg:=kg.lt;have da:=zA w (.cells #[vd vn p] 224);replace kg:=kg.below da lg;unfold fv;go_enter func222,ntmps222
 go_wp2_with fail
 exact Sc (v:=.tuple #[]) (by simp [results,results222,go_sem]) rfl ⟨rfl,kg,Vf (Ce w _) da zR⟩
theorem zJH (p:Nat) (hp:Jb p=true) (j:Nat) (hj:j+1 <= 12) (IH0:∀ (a:Nat -> Nat) (x g:Nat) (w:vw),Blk w g 22 (Qa (2^j) a) ->
  vB prog 222 #[fv p,ve (vE ⟨g,0,vD⟩) (2^j) (2^j),vd vn x] w fun e w'=>e=vl (.tuple #[]) /\ Blk w' g 22 (Qa (2^j) (tk p j a x)) /\ w.grownBy w' (vE g))
  (a:Nat -> Nat) (x g:Nat) (w:vw) (kg:Blk w g 22 (Qa (2^(j+1)) a)) :
  vB prog 222 #[fv p,ve (vE ⟨g,0,vD⟩) (2^(j+1)) (2^(j+1)),vd vn x] w fun e w'=>e=vl (.tuple #[]) /\ Blk w' g 22 (Qa (2^(j+1)) (tk p (j+1) a x)) /\ w.grownBy w' (vE g):=by
 have IH:=zH IH0;clear IH0;have HM:=zH (fun a b w=>Kr p a b w hp)
 have HA:=zH (fun a b w=>mn p a b w hp)
 have HS:=zH (fun a b w=>NM p a b w hp)
 have hh:2^j <= 2048:=bn (n:=2) zO (show j <= 11 by omega)
 have Xd:2^(j+1)=2*2^j:=by rw [Sf,ye]
 have h1:1 <= 2^j:=Nat.pow_pos zO;obtain ⟨Fn,hF⟩:=zEX (tk p (j+1) a x);obtain ⟨E,hE⟩:=zEX (tk p j (fun i=>a (2*i)) (x*x%p))
 obtain ⟨O,hO⟩:=zEX (tk p j (fun i=>a (2*i+1)) (x*x%p))
 have Yp:=zH (show ∀ k,k<2^j -> Fn k=(E k+Is p x k*O k%p)%p from fun k hk=>by rw [hF,hE,hO];simp [tk,hk])
 have Wq:=zH (show ∀ k,k<2^j -> Fn (k+2^j)=(E k+tg p (Is p x k*O k%p))%p from fun k hk=>by rw [hF,hE,hO];simp only [tk];rw [ya zO,Nat.add_sub_cancel])
 rw [<- hF];have HE:=zH hE;have HO:=zH hO;clear hF hE hO;generalize 2^(j+1)=n at *;generalize 2^j=h at *;have lg:=kg.lt;obtain ⟨kf,da⟩:=zN w 224 #[vd vn p];replace kg:=kg.below da lg;have s0:(w.alloc (.cells #[vd vn p] 224)).1.size=w.1.size+1:=by simp
 unfold fv at *;have d1:decide ((n:Int)<2)=false:=db zO;have e1:(n:Int) / 2=(h:Int):=by omega
 have e2:(n:Int).tdiv 2=(h:Int):=by rw [sK zO];exact e1
 have e3:=Qc h;have g0:(0:Int)<=n:=by omega
 have g1:(n:Int) <= 4096:=by omega
 have g3:(0:Int)<=h:=by omega
 have g4:(h:Int) <= 2048:=by omega
 have g5':n <= 4096:=by omega
 have g6:h <= 2048:=by omega
 have HN:=zH Xd;clear Xd hh;have mk:=Xw h zO;go_enter func222,ntmps222
 go_upto_region 3 with fail
 generalize w.alloc _=w1 at kf kg da s0 |-;refine zB4 (Fx w1.1.size) [0,1,3,4] 4 zK zK ?_;refine zB8 (Be w1.1.size) ?_;intro Wc Ja ea
 repeat ((first | refine zB7 (Be w1.1.size) rfl rfl (fun _ _ _ h=>h) ?_ | (refine zB5 (v:=?_) (Be w1.1.size) rfl rfl (fun _ _ _ h=>h) ?_ ?_;rotate_left;(· (intro w' hR;(first | have qn:=wU ((Be w1.1.size).trans _ _ _ ea hR) | skip);go_simp;try with_reducible rfl))));refine zPU ?_)
 have Ma:=jg Ja;have pc:w1.1.size <= Wc.1.size:=Ma.size;refine zB6 (Be w1.1.size) [⟨2,[],[]⟩,⟨5,[],[]⟩,⟨6,[2],[]⟩] [(2,Ge 22 (fun _=>Qa h fun _=>0) (Ed h) 2),(5,Ge 22 (fun _=>Qa h fun _=>0) (Ed h) 5),(6,mq (fun vs=>vs 2) 6)] [(vE 20,2),(vE 23,5),(vE 7,6)] [7] [7] zK zK (by first | exact zR | omega) (fun w1 h1=>h1) ?_ ?_ ?_
 ·exact Rf.2 ⟨xx rfl (fun _ _ _=>rfl),Rf.2 ⟨xx rfl (fun _ _ _=>rfl),Rf.2 ⟨UR rfl (fun vs us h=>by simp only [h 2 zD]),RB _⟩⟩⟩
 ·refine Rf.2 ⟨?_,Rf.2 ⟨?_,Rf.2 ⟨?_,RB _⟩⟩⟩
  ·refine Qq [] rfl zK ?_
   intro w1 vs F Ia hd Lf;clear hd;unfold ki;simp only [List.foldl];change Yi _ _ _ fun v w'=>xm _ w1 w' F [] /\ Ge 22 (fun _=>Qa h fun _=>0) (Ed h) 2 (oh vs 2 v) (Vn w1 w' F []) w'
   have Jd:=zb pc Ia.size;exact fy (v:=ve (vE ⟨w1.1.size,0,vD⟩) h h) (w':=w1.alloc (.cells (Qa h fun _=>0) 22)) (by go_simp <;> rfl) ⟨GD ((tb _ _).alloc zR _) Jd _ _,Rv (Blk.new _ _ _) zR⟩
  ·refine Qq [] rfl zK ?_
   intro w1 vs F Ia hd Lf;clear hd;unfold ki;simp only [List.foldl];change Yi _ _ _ fun v w'=>xm _ w1 w' F [] /\ Ge 22 (fun _=>Qa h fun _=>0) (Ed h) 5 (oh vs 5 v) (Vn w1 w' F []) w'
   have Jd:=zb pc Ia.size;exact fy (v:=ve (vE ⟨w1.1.size,0,vD⟩) h h) (w':=w1.alloc (.cells (Qa h fun _=>0) 22)) (by go_simp <;> rfl) ⟨GD ((tb _ _).alloc zR _) Jd _ _,Rv (Blk.new _ _ _) zR⟩
  ·refine Qq [(vE 20,2)] rfl zK ?_
   intro w1 vs F Ia hd Lf;have d2:Ge 22 (fun _=>Qa h fun _=>0) (Ed h) 2 vs (F 2) w1 /\ ∀ b,F 2 b -> b<w1.1.size /\ _ <= b:=hd 2 zD
   clear hd;unfold ki;simp only [List.foldl];change Yi _ _ _ fun v w'=>xm _ w1 w' F [] /\ mq (fun vs=>vs 2) 6 (oh vs 6 v) (Vn w1 w' F []) w'
   obtain ⟨g2,e2',-⟩:=d2.1;exact fy (v:=vs 2) (w':=w1) (by rw [e2'];go_simp <;> rfl) ⟨YV _ _ _ _,rfl⟩
 intro wf vs F zk hf Lf;have f2:Ge 22 (fun _=>Qa h fun _=>0) (Ed h) 2 vs (F 2) wf /\ ∀ b,F 2 b -> b<wf.1.size /\ _ <= b:=hf _ (.head _) zD
 have f5:Ge 22 (fun _=>Qa h fun _=>0) (Ed h) 5 vs (F 5) wf /\ ∀ b,F 5 b -> b<wf.1.size /\ _ <= b:=hf _ (.tail _ (.head _)) zD
 have f6:mq (fun vs=>vs 2) 6 vs (F 6) wf /\ ∀ b,F 6 b -> b<wf.1.size /\ _ <= b:=hf _ (.tail _ (.tail _ (.head _))) zD
 clear hf;unfold ki;simp only [List.foldl];obtain ⟨⟨g2,e2,h2,k2⟩,b2⟩:=f2;have y2:=(b2 _ h2).2;obtain ⟨⟨g5,e5,h5,k5⟩,b5⟩:=f5;have y5:=(b5 _ h5).2;have e6:vs 6=vs 2:=f6.1;have n2_5:g2≠g5:=fun e=>Lf 2 5 _ zD h2 (by rw [e];exact h5)
 simp only [e2] at e6;simp only [e2,e5,e6];clear b2 b5 f6 e2 e5 e6 h2 h5
 try dsimp only [Ed]
 try dsimp only [mkP]
 clear Lf;refine ou ?_;refine Hc ?_;replace kf:Blk wf w.1.size _ _:=(ia kf Ma).below zk zO;replace kg:Blk wf g _ _:=(ia kg Ma).below zk zO;replace da:vA w.1.size w wf:=(ma da Ma).trans (zk.mono zO);have yj:w.1.size+1 <= wf.1.size:=by have:=zk.size;omega
 clear Ma zk Ja mk ea;rw [s0] at y2 y5;clear pc s0;rw [<- jK _ (fun i=>a (2*i))] at k2
 rw [<- jK _ (fun i=>a (2*i+1))] at k5
 go_wp2_with fail
 go_loopw [26] (fun y wr=>∃ i:Nat,i <= h /\ y=vd vq i /\ Blk wr w.1.size 224 #[vd vn p] /\ Blk wr g 22 (Qa n a) /\ Blk wr g2 22 (Qa h (ni (fun i=>a (2*i)) (fun _=>0) i)) /\ Blk wr g5 22 (Qa h (ni (fun i=>a (2*i+1)) (fun _=>0) i)) /\ vA w.1.size w wr /\ w.1.size+1 <= wr.1.size) (fun y _=>h-(intOf y).toNat)
 case atStart=>exact ⟨0,Kb _,rfl,kf,kg,k2,k5,da,yj⟩
 case round =>
  clear kf kg k2 k5 da yj;obtain ⟨i,hi,rfl,kf,kg,k2,k5,da,yj⟩:=hrel;by_cases ta:i<h
  ·have q1:(0:Int)<=i:=by omega
   have q2:(i:Int)<h:=by omega
   obtain ⟨i2,Si⟩:=zEX (2*i);obtain ⟨i3,RC⟩:=zEX (2*i+1);have x1:(2:Int)*i=(i2:Int):=by omega
   have x2:=Qc i2;have x3:(i2:Int)+1=(i3:Int):=by omega
   have x4:=Qc i3;have Yr:i2<n:=by have:=HN.out;omega
   have hl3:i3<n:=by have:=HN.out;omega
   have x5:(i2:Int)<n:=by omega
   have x6:(i3:Int)<n:=by omega
   have ca:=kg.cell i2;rw [Uf _ Yr] at ca;have cb:=kg.cell i3;rw [Uf _ hl3] at cb;obtain ⟨va,hva⟩:=zEX (a i2);obtain ⟨vb,Uc⟩:=zEX (a i3);have zu:=zH (show va=(fun i=>a (2*i)) i by rw [hva,Si])
   have HVB:=zH (show vb=(fun i=>a (2*i+1)) i by rw [Uc,RC])
   rw [<- hva] at ca;rw [<- Uc] at cb;have Xq:=zH Si;clear hva Uc Si RC;have lg':g<w.1.size+1:=by omega
   go_upto_region 7 with fail
   refine zd (Fx (w.1.size+1)) [16,18] [0,1,2,3,4,5,6,7,8,9,10,11,12,13,14,15,16,17,18] zK zK ?_;refine Ue (Be (w.1.size+1)) ?_;intro Wc Ja ea;refine ou ?_;refine Te (Be (w.1.size+1)) rfl rfl rfl ?_;have Sb:=jg Ja;replace kf:=ia kf Sb;replace kg:=ia kg Sb;replace k2:=ia k2 Sb;replace k5:=ia k5 Sb;replace da:=ma da Sb;replace yj:=zb yj Sb.size;clear Sb Ja ca cb;have c2:=k2.cell i;rw [nE _ _ ta] at c2;have f2:=k2.frozen;go_simp;refine ⟨qF _ _ y2,?_⟩;have hg:=Zj (w:=Wc) g2 i (vd vn va);replace kf:=Fe kf hg;replace kg:=Fe kg hg;replace k5:=Fe k5 hg;replace da:=Ef da hg;replace yj:=zb yj hg.size;replace k2:=k2.set_ i (vd vn va);rw [oE (F:=fun i=>a (2*i)) zu.out] at k2
   clear hg f2 c2 ea;generalize Wc.setCell _ _=wb at kf kg k2 k5 da yj |-
   refine zPU ?_
   have ea:=(Be (w.1.size+1)).refl wb;refine ou ?_;have c5:=k5.cell i;rw [nE _ _ ta] at c5;have f5:=k5.frozen;refine Te (Be (w.1.size+1)) rfl rfl rfl ?_;go_simp;refine ⟨qF _ _ y5,?_⟩;have hg:=Zj (w:=wb) g5 i (vd vn vb);replace kf:=Fe kf hg;replace kg:=Fe kg hg;replace k2:=Fe k2 hg;replace da:=Ef da hg;replace yj:=zb yj hg.size;replace k5:=k5.set_ i (vd vn vb);rw [oE (F:=fun i=>a (2*i+1)) HVB.out] at k5
   clear hg f5 c5 ea;generalize wb.setCell _ _=wc at kf kg k2 k5 da yj |-
   refine zPU ?_
   refine Hc ?_;go_wp2
   go_roundw
   case rel=>exact ⟨i+1,zO,by go_num,kf,kg,k2,k5,da,yj⟩
   case measure=>simp [intOf];omega
  ·obtain rfl:h=i:=by omega
   rw [OL] at k2 k5;obtain ⟨sq,hsq⟩:=zEX (x*x%p);have HQ:=zH (fun w=>by have:=HM.out x x w;rw [<- hsq] at this;exact this)
   rw [<- hsq] at HE HO;clear hsq;have cf:=kf.cell;go_wp2_with fail
   refine (HQ.out _).mono ?_;rintro e w3 ⟨rfl,Ta⟩;replace kf:=ia kf Ta;replace kg:=ia kg Ta;replace k2:=ia k2 Ta;replace k5:=ia k5 Ta;replace da:=ma da Ta;replace yj:=zb yj Ta.size;clear Ta cf;have cf:=kf.cell;go_wp2_with fail
   refine (IH.out _ sq g2 _ k2).mono ?_;rintro e w4 ⟨rfl,Zh,Aq⟩;rw [<- HE.out] at Zh;replace kf:=Fe kf Aq;replace kg:=Fe kg Aq;replace k5:=Fe k5 Aq;replace da:=Ef da Aq;replace yj:=zb yj Aq.size;clear Aq cf k2;have cf:=kf.cell;go_wp2_with fail
   refine (IH.out _ sq g5 _ k5).mono ?_;rintro e w5 ⟨rfl,MA,Bq⟩;rw [<- HO.out] at MA;replace kf:=Fe kf Bq;replace kg:=Fe kg Bq;replace Zh:=Zh.grown Bq (fun e=>by have:=Ya e;first | omega | (exact absurd this (by assumption)) | (exact absurd this.symm (by assumption)))
   replace da:=Ef da Bq;replace yj:=zb yj Bq.size;clear Bq cf k5 ta hi;have Wa:w.grownBy w5 (vE g):=Vf (Ce w _) da zR;clear da;rw [<- zJy _ Fn _ h] at kg;have hgg2:g≠g2:=by omega
   have hgg5:g≠g5:=by omega
   clear IH HE HO HQ;go_wp2_with fail
   go_loopw [11,61] (fun pv y wr=>∃ (i pw:Nat),i <= h /\ y=vd vq i /\ pv=vd vn pw /\ Hid (pw=Is p x i) /\ Blk wr w.1.size 224 #[vd vn p] /\ Blk wr g 22 (Qa n (sB Fn a h i)) /\ Blk wr g2 22 (Qa h E) /\ Blk wr g5 22 (Qa h O) /\ w.grownBy wr (vE g)) (fun _ y _=>h-(intOf y).toNat)
   case atStart=>exact ⟨0,1,Kb _,rfl,rfl,rfl,kf,kg,Zh,MA,Wa⟩
   case round =>
    clear kf kg Zh MA Wa yj;obtain ⟨i,pw,hi,rfl,rfl,HPW,kf,kg,k2,k5,Wa⟩:=hrel;by_cases ta:i<h
    ·have q1:(0:Int)<=i:=by omega
     have q2:(i:Int)<h:=by omega
     obtain ⟨ih,hih⟩:=zEX (i+h);have x1:(i:Int)+h=(ih:Int):=by omega
     have x2:=Qc ih;have Bk:i<n:=by have:=HN.out;omega
     have Yr:ih<n:=by have:=HN.out;omega
     have x5:(i:Int)<n:=by omega
     have x6:(ih:Int)<n:=by omega
     obtain ⟨ev,QI⟩:=zEX (E i);obtain ⟨od,hod⟩:=zEX (O i);obtain ⟨pt,FA⟩:=zEX (pw*od%p);obtain ⟨s1,Xc⟩:=zEX ((ev+pt)%p);obtain ⟨s2,Dd⟩:=zEX ((ev+tg p pt)%p);obtain ⟨np,DA⟩:=zEX (pw*x%p);have Rh:=zH (show s1=Fn i by rw [Xc,FA,QI,hod,HPW.out,Yp.out i ta])
     have yr:=zH (show s2=Fn ih by rw [Dd,FA,QI,hod,HPW.out,hih,Wq.out i ta])
     have HNP:=zH (show np=Is p x (i+1) by rw [DA,HPW.out];rfl)
     have Il:=zH (fun w=>by have:=HM.out pw od w;rw [<- FA] at this;exact this)
     have Wn:=zH (fun w=>by have:=HA.out ev pt w;rw [<- Xc] at this;exact this)
     have Dz:=zH (fun w=>by have:=HS.out ev pt w;rw [<- Dd] at this;exact this)
     have HC4:=zH (fun w=>by have:=HM.out pw x w;rw [<- DA] at this;exact this)
     have HEV:=zH QI;have HIH:=zH hih;have co:=k5.cell i;rw [Uf _ ta,<- hod] at co;clear QI hod FA Xc Dd DA hih;have cf:=kf.cell;have lf:=kf.lt;have lo:=k5.lt;go_upto_region 16 with fail
     refine kh (Wb) (oa) [] [] [0,1,2,3,4,5,6,7] zK zK ?_;refine lh (oa) ?_;intro Wc ea;refine Me ?_;refine Nd oa rfl rfl rfl rfl (fun w' hR=>Il.out _) ?_
     refine zPU ?_;refine Me ?_;refine Qs rfl ?_;intro wd me;replace ea:=zM oa ea me;clear me;have Sb:=ma (tb wr.1.size wr).drew ea;have QC:=Vf Wa Sb Wa.size;replace kf:=ia kf Sb;replace kg:=ia kg Sb;replace k2:=ia k2 Sb;replace k5:=ia k5 Sb;clear Sb ea cf lf lo co Wa;have ce:=k2.cell i;rw [Uf _ ta,<- HEV.out] at ce;have cf:=kf.cell;have lf:=kf.lt;have lo:=k2.lt;go_upto_region 17 with fail
     refine kh (Wb) (oa) [10] [10] [0,1,2,3,4,5,6,7,8,9,10] zK zK ?_;refine lh (oa) ?_;intro Wc ea;refine Xe ?_;refine Nd oa rfl rfl rfl rfl (fun w' hR=>Wn.out _) ?_
     refine zPU ?_;refine Xe ?_;refine Oo rfl rfl rfl rfl ?_;intro wh Qd;replace ea:=zM oa ea Qd;have Sb:=ma (tb wd.1.size wd).drew ea;have YI:=Vf QC Sb QC.size;replace kf:=ia kf Sb;replace kg:=ia kg Sb;replace k2:=ia k2 Sb;replace k5:=ia k5 Sb;clear Sb ea Qd cf lf lo ce QC;obtain ⟨old,ho⟩:∃ old,(Qa n (sB Fn a h i))[i]?=vE old:=⟨_,Uf _ Bk⟩;have c2:=kg.cell i;rw [ho] at c2;have f2:=kg.frozen;go_simp;refine ⟨fun h=>Bool.noConfusion h,?_⟩
     have hg:=Zj (w:=wh) g i (vd vn s1);replace kf:=Fe kf hg;replace k2:=Fe k2 hg;replace k5:=Fe k5 hg;replace kg:=kg.set_ i (vd vn s1);have YP:=Mr YI hg (fun _ e=>.inl e)
     clear hg f2 c2 ho YI;generalize wh.setCell _ _=we at kf kg k2 k5 YP |-;refine Up rfl ?_;have ce:=k2.cell i;rw [Uf _ ta,<- HEV.out] at ce;have cf:=kf.cell;have lf:=kf.lt;have lo:=k2.lt;go_upto_region 18 with fail
     refine kh (Wb) (oa) [13] [13] [0,1,2,3,4,5,6,7,8,9,10,11,12,13] zK zK ?_;refine lh (oa) ?_;intro Wc ea;refine Xe ?_;refine Nd oa rfl rfl rfl rfl (fun w' hR=>Dz.out _) ?_
     refine zPU ?_;refine Xe ?_;refine Oo rfl rfl rfl rfl ?_;intro wh Qd;replace ea:=zM oa ea Qd;have Sb:=ma (tb we.1.size we).drew ea;have cN:=Vf YP Sb YP.size;replace kf:=ia kf Sb;replace kg:=ia kg Sb;replace k2:=ia k2 Sb;replace k5:=ia k5 Sb;clear Sb ea Qd cf lf lo ce YP;obtain ⟨old2,ho⟩:∃ old,((Qa n (sB Fn a h i)).setIfInBounds i (vd vn s1))[ih]?=vE old:=by
      rw [Array.getElem?_setIfInBounds_ne (zQ HIH.out)];exact ⟨_,Uf _ Yr⟩
     have c2:=kg.cell ih;rw [ho] at c2;have f2:=kg.frozen;go_simp;refine ⟨fun h=>Bool.noConfusion h,?_⟩
     have hg:=Zj (w:=wh) g ih (vd vn s2);replace kf:=Fe kf hg;replace k2:=Fe k2 hg;replace k5:=Fe k5 hg;replace kg:=kg.set_ ih (vd vn s2);rw [zJx ta Rh.out HIH.out yr.out] at kg;have YK:=Mr cN hg (fun _ e=>.inl e)
     clear hg f2 c2 ho cN;generalize wh.setCell _ _=wj at kf kg k2 k5 YK |-;refine Up rfl ?_;have cf:=kf.cell;go_wp2_with fail
     refine (HC4.out _).mono ?_;rintro e w9 ⟨rfl,Rr⟩;have hgr7:=Vf YK Rr YK.size;replace kf:=ia kf Rr;replace kg:=ia kg Rr;replace k2:=ia k2 Rr;replace k5:=ia k5 Rr;clear Rr cf YK;go_wp2
     go_roundw
     case rel=>exact ⟨i+1,np,zO,by go_num,rfl,HNP.out,kf,kg,k2,k5,hgr7⟩
     case measure=>simp [intOf];omega
    ·obtain rfl:h=i:=by omega
     rw [zJw _ _ _ _ HN.out] at kg;go_wp2;exact bodyPost_end (v:=.tuple #[]) (by simp [results,results222,go_sem]) rfl ⟨rfl,kg,Wa⟩
theorem zBL (p:Nat) (hp:Jb p=true):∀ (j:Nat),j <= 12 -> ∀ (a:Nat -> Nat) (x g:Nat) (w:vw),Blk w g 22 (Qa (2^j) a) ->
  vB prog 222 #[fv p,ve (vE ⟨g,0,vD⟩) (2^j) (2^j),vd vn x] w fun e w'=>e=vl (.tuple #[]) /\ Blk w' g 22 (Qa (2^j) (tk p j a x)) /\ w.grownBy w' (vE g):=by
 intro j
 induction j with
 | zero=>exact fun _ a x g w kg=>zJG p a x g w kg
 | succ j ih=>exact fun hj a x g w kg=>zJH p hp j hj (ih zO) a x g w kg
def Dn (p n j:Nat) (l:List Nat) (k:Nat):Nat:=tk p j (YJ p l) (Ee p n^(p-2)%p) k*(n^(p-2)%p)%p
theorem aS (p:Nat) (A:Option vy) (n c j:Nat) (l:List Nat) (w:vw) (hp:Jb p=true) (hl:RWd w [ve A n c] l) (hn:Tk p n) (hj:n=2^j) :
  vB prog 144 #[fv p,ve A n c] w fun e w'=>∃ g,e=vl (.tuple #[ve (vE ⟨g,0,vD⟩) n n,vd vq 0]) /\ w.1.size <= g /\ Blk w' g 22 (Qa n (Dn p n j l)) /\ vA w.1.size w w':=by
 obtain ⟨zf,Kd⟩:=Rb hp;have Ly:=hn.le;have TU:j <= 12:=by have:=BW (j:=j) zO;omega
 have HV:=zH (fun w=>zp p w hp)
 have HR:=zH (fun w=>cS p n w hp hn)
 have HD:=zH (fun w' (hb:vA w.1.size w w')=>zJi p A n c l w' hp (Ab hb hl) zO)
 have HM:=zH (fun a b w=>Kr p a b w hp)
 obtain ⟨r,hr⟩:=zEX (Ee p n);obtain ⟨ri,hri⟩:=zEX (r^(p-2)%p);obtain ⟨pt,FA⟩:=zEX (n^(p-2)%p);have Mx:=zH (fun w=>by have:=G2 p r w hp;rw [<- hri] at this;exact this)
 have Xq:=zH (fun w=>by have:=G2 p n w hp;rw [<- FA] at this;exact this)
 obtain ⟨a,ha⟩:=zEX (YJ p l);obtain ⟨E,hE⟩:=zEX (tk p j a ri);have zu:=zH (fun g w (k:Blk w g 22 (Qa n a))=>by have:=zBL p hp j TU a ri g w (by rw [<- hj];exact k);rw [<- hj,<- hE] at this;exact this)
 have Qx:=zH (show Dn p n j l=fun k=>E k*pt%p by funext k;unfold Dn;rw [<- hr,<- hri,<- FA,<- ha,<- hE])
 rw [Qx.out];rw [<- hr] at HR;rw [<- ha] at HD;clear hr hri FA ha hE hj hn zf Kd hl;unfold fv at *;obtain ⟨kf,da⟩:=zN w 224 #[vd vn p];have gn:(n:Int) <= 4096:=by omega
 have en:vn.wrap (n:Int)=n:=Fl _ zO;go_enter func144,ntmps144
 go_wp2_with fail
 generalize w.alloc _=w1 at kf da |-;refine (HV.out _).mono ?_;rintro e w2 ⟨rfl,Ba⟩;replace kf:=ia kf Ba;replace da:=ma da Ba;clear Ba;have cf:=kf.cell;go_wp2_with fail
 refine (HR.out _).mono ?_;rintro e w3 ⟨rfl,Ta⟩;replace kf:=ia kf Ta;replace da:=ma da Ta;clear Ta cf;have cf:=kf.cell;go_wp2_with fail
 refine (HD.out _ da).mono ?_;rintro e w4 ⟨g0,rfl,zq,kr,Db⟩;have og:w.1.size<g0:=by have:=kf.lt;omega
 replace kf:=ia kf Db;replace da:=ma da Db;clear Db cf zq;have cf:=kf.cell;have lf:=kf.lt;have nf:w.1.size≠g0:=by omega
 go_upto_region 7 with fail
 refine zd (So g0 w4.1.size) [4,5] [0,1,2,3,4,5] zK zK ?_;refine Ue (Yb g0 w4.1.size) ?_;intro Wc Ja ea;refine qY ?_;have Sb:=jg Ja;have pc:w4.1.size <= Wc.1.size:=Sb.size;replace kf:=ia kf Sb;replace kr:=ia kr Sb;replace da:=ma da Sb;clear Sb Ja cf lf;refine tE (Yb g0 w4.1.size) rfl rfl rfl (fun _=>by go_simp <;> rfl) ((Mx.out _).mono ?_)
 rintro e w5 ⟨rfl,Za⟩;refine ⟨_,rfl,Xk Za pc,?_⟩;replace ea:=(Yb g0 w4.1.size).trans _ _ _ ea (Xk Za pc);refine zPU ?_;replace pc:=zb pc Za.size;replace kf:=ia kf Za;replace kr:=ia kr Za;replace da:=ma da Za;clear Za;refine tE (Yb g0 w4.1.size) rfl rfl rfl (fun _=>by go_simp <;> rfl) ((zu.out g0 _ kr).mono ?_)
 rintro e w6 ⟨rfl,tG,WI⟩;refine ⟨_,rfl,uC WI pc,?_⟩;replace ea:=(Yb g0 w4.1.size).trans _ _ _ ea (uC WI pc);refine zPU ?_;replace kf:=Fe kf WI;replace da:=Ef da WI;clear WI pc ea kr;refine Hc ?_;have cf:=kf.cell;go_wp2_with fail
 refine (Xq.out _).mono ?_;rintro e w7 ⟨rfl,Cd⟩;replace kf:=ia kf Cd;replace tG:=tG.below Cd tG.lt;replace da:=ma da Cd;clear Cd cf;rw [<- jK _ (fun k=>E k*pt%p)] at tG
 go_wp2_with fail
 go_loopw [40] (fun y wr=>∃ i:Nat,i <= n /\ y=vd vq i /\ Blk wr w.1.size 224 #[vd vn p] /\ Blk wr g0 22 (Qa n (ni (fun k=>E k*pt%p) E i)) /\ vA w.1.size w wr) (fun y _=>n-(intOf y).toNat)
 case atStart=>exact ⟨0,Kb _,rfl,kf,tG,da⟩
 case round =>
  clear kf tG da;obtain ⟨i,hi,rfl,kf,kr,da⟩:=hrel;by_cases ta:i<n
  ·have q1:(0:Int)<=i:=by omega
   have q2:(i:Int)<n:=by omega
   obtain ⟨x,hx⟩:=zEX (E i);obtain ⟨z,hz⟩:=zEX (x*pt%p);have HZ:=zH (show z=(fun k=>E k*pt%p) i by rw [hz,hx])
   have HX:=zH (fun w=>by have:=HM.out x pt w;rw [<- hz] at this;exact this)
   have ca:=kr.cell i;rw [nE _ _ ta,<- hx] at ca;clear hx hz;have cf:=kf.cell;go_wp2_with fail
   refine (HX.out _).mono ?_;rintro e w8 ⟨rfl,xk⟩;replace kf:=ia kf xk;replace kr:=ia kr xk;replace da:=ma da xk;clear xk ca cf;have c2:=kr.cell i;rw [nE _ _ ta] at c2;generalize E i=old at c2;have f2:=kr.frozen;go_wp2_with fail
   have hg:=Zj (w:=w8) g0 i (vd vn z);replace kf:=Fe kf hg;replace da:=Ef da hg;replace kr:=kr.set_ i (vd vn z);rw [oE (F:=fun k=>E k*pt%p) HZ.out] at kr
   clear hg f2 c2
   go_roundw
   case rel=>exact ⟨i+1,zO,by go_num,kf,kr,da⟩
   case measure=>simp [intOf];omega
  ·obtain rfl:n=i:=by omega
   rw [OL] at kr;go_wp2
   go_ret2
   exact ⟨g0,rfl,zO,kr,da⟩
def ym (p n:Nat) (l:List Nat) (s:Nat):Nat -> Nat -> Nat
 | 0=>fun _=>0
 | i+1=>Cf (ym p n l s i) (i%n) ((ym p n l s i (i%n)+l.getD i 0*Is p s i%p)%p)
def rk (p n j:Nat) (l:List Nat) (s:Nat):Nat -> Nat:=tk p j (ym p n l (s%p) l.length) (Ee p n)
theorem LX (p:Nat) (A:Option vy) (m c n j s:Nat) (l:List Nat) (w:vw) (hp:Jb p=true) (hl:RWd w [ve A m c] l) (hn:Tk p n) (hj:n=2^j) (hs:s%p≠0) (hm:m <= 8192) :
  vB prog 130 #[fv p,ve A m c,vd vn s,vd vq n] w fun e w'=>∃ g,e=vl (.tuple #[ve (vE ⟨g,0,vD⟩) n n,vd vq 0]) /\ w.1.size <= g /\ Blk w' g 22 (Qa n (rk p n j l s)) /\ vA w.1.size w w':=by
 have Ly:=hn.le;have Re:=hn.pos;have TU:j <= 12:=by have:=BW (j:=j) zO;omega
 have HV:=zH (fun w=>zp p w hp)
 have HR:=zH (fun w=>cS p n w hp hn)
 have HM:=zH (fun a b w=>Kr p a b w hp)
 have HA:=zH (fun a b w=>mn p a b w hp)
 have HD:=zH (fun w=>rI p s w hp)
 obtain ⟨r,hr⟩:=zEX (Ee p n);obtain ⟨x,hx⟩:=zEX (s%p);have Qx:=zH (show rk p n j l s=tk p j (ym p n l x l.length) r by unfold rk;rw [<- hr,<- hx])
 rw [Qx.out];have zu:=zH (fun g w (k:Blk w g 22 (Qa n (ym p n l x l.length)))=>by have:=zBL p hp j TU (ym p n l x l.length) r g w (by rw [<- hj];exact k);rw [<- hj] at this;exact this)
 rw [<- hr] at HR;rw [<- hx] at HD hs;obtain ⟨rfl,h1,h2,ta,Ra⟩:=Ob hl;clear hr hx hj hn hl Qx;generalize tk p j (ym p n l x l.length) r=E at *;unfold fv at *;obtain ⟨kf,da⟩:=zN w 224 #[vd vn p];have gn:(n:Int) <= 4096:=by omega
 have gn1:(1:Int)<=n:=by omega
 have gn0:(0:Int)<n:=by omega
 have gn2:¬((n:Int)=0):=by omega
 have gn3:¬(n=0):=by omega
 have gm:(l.length:Int) <= 8192:=by omega
 have d1:((x:Int) == 0)=false:=by rw [Gd];omega
 have d2:decide ((8192:Int)<l.length)=false:=db zO;have mk:=Xw n zO;clear hs;go_enter func130,ntmps130
 go_wp2_with fail
 generalize w.alloc _=w1 at kf da |-;refine (HV.out _).mono ?_;rintro e w2 ⟨rfl,Ba⟩;replace kf:=ia kf Ba;replace da:=ma da Ba;clear Ba;have cf:=kf.cell;go_wp2_with fail
 refine (HR.out _).mono ?_;rintro e w3 ⟨rfl,Ta⟩;replace kf:=ia kf Ta;replace da:=ma da Ta;clear Ta cf;have cf:=kf.cell;go_wp2_with fail
 refine (HD.out _).mono ?_;rintro e w4 ⟨rfl,Db⟩;replace kf:=ia kf Db;replace da:=ma da Db;clear Db cf;go_wp2_with fail
 have kr:=Blk.new w4 22 (Qa n fun _=>0)
 have ja:=zA w4 (.cells (Qa n fun _=>0) 22)
 have zq:w.1.size<w4.1.size:=kf.lt;replace kf:=ia kf ja;replace da:=ma da ja;clear ja mk;generalize w4.alloc _=w5 at kf kr da |-;generalize w4.1.size=g0 at kr zq |-;go_loopw [13,41] (fun pv y wr=>∃ (i pw:Nat),i <= l.length /\ y=vd vq i /\ pv=vd vn pw /\ Hid (pw=Is p x i) /\ Blk wr w.1.size 224 #[vd vn p] /\ Blk wr g0 22 (Qa n (ym p n l x i)) /\ vA w.1.size w wr) (fun _ y _=>l.length-(intOf y).toNat)
 case atStart=>exact ⟨0,1,Kb _,rfl,rfl,rfl,kf,kr,da⟩
 case round =>
  clear kf kr da;obtain ⟨i,pw,hi,rfl,rfl,HPW,kf,kr,da⟩:=hrel;by_cases WC:i<l.length
  ·have q1:(0:Int)<=i:=by omega
   have q2:(i:Int)<l.length:=by omega
   obtain ⟨b,q,rfl,Gb,hc⟩:=Rg (Ra.below da) WC;obtain ⟨y,hy⟩:=zEX (l.getD i 0);obtain ⟨t,ht⟩:=zEX (i%n);obtain ⟨v,hv⟩:=zEX (ym p n l x i t);obtain ⟨pr,hpr⟩:=zEX (y*pw%p);obtain ⟨z,hz⟩:=zEX ((v+pr)%p);obtain ⟨np,DA⟩:=zEX (pw*x%p);have Ow:t<n:=by rw [ht];exact mc _ zO
   have e1:(i:Int)%(n:Int)=t:=by rw [ht];rfl
   have e2:(i:Int).tmod (n:Int)=t:=by rw [Int.tmod_eq_emod_of_nonneg zO];exact e1
   have e3:=Qc t;have e4:(0:Int)<=t:=by omega
   have e5:(t:Int)<n:=by omega
   have xg:=zH (show (Qa n (ym p n l x i)).setIfInBounds t (vd vn z)=Qa n (ym p n l x (i+1)) by rw [Lr,hz,hpr,hv,hy,ht,HPW.out];rfl)
   have HNP:=zH (show np=Is p x (i+1) by rw [DA,HPW.out];rfl)
   have Il:=zH (fun w=>by have:=HM.out y pw w;rw [<- hpr] at this;exact this)
   have Wn:=zH (fun w=>by have:=HA.out v pr w;rw [<- hz] at this;exact this)
   have Dz:=zH (fun w=>by have:=HM.out pw x w;rw [<- DA] at this;exact this)
   have cr:=kr.cell t;rw [Uf _ Ow,<- hv] at cr;rw [<- hy] at hc;have BH:=zH hv;clear hy ht hv hpr hz DA;have cf:=kf.cell;have lf:=kf.lt;have lr:=kr.lt;go_upto_region 14 with fail
   refine kh (Wb) (oa) [17] [17] [0,1,2,3,4,5,6,7,8,9,10,11,12,13,14,15,16,17] zK zK ?_;refine lh (oa) ?_;intro Wc ea;refine Xe ?_;refine Nd oa rfl rfl rfl rfl (fun w' hR=>Il.out _) ?_
   refine zPU ?_;refine Xe ?_;refine Nd oa rfl rfl rfl rfl (fun w' hR=>Wn.out _) ?_
   refine zPU ?_;refine Xe ?_;refine Oo rfl rfl rfl rfl ?_;intro wh Qd;replace ea:=zM oa ea Qd;have Sb:=ma (tb wr.1.size wr).drew ea;replace kf:=ia kf Sb;replace kr:=ia kr Sb;replace da:=ma da Sb;clear Sb ea Qd cf lf lr cr hc;have c2:=kr.cell t;rw [Uf _ Ow,<- BH.out] at c2;have f2:=kr.frozen;go_simp;refine ⟨fun h=>Bool.noConfusion h,?_⟩
   have hg:=Zj (w:=wh) g0 t (vd vn z);replace kf:=Fe kf hg;replace da:=Ef da hg;replace kr:=kr.set_ t (vd vn z);rw [xg.out] at kr;clear hg f2 c2;generalize wh.setCell _ _=we at kf kr da |-;refine Up rfl ?_;have cf:=kf.cell;go_wp2_with fail
   refine (Dz.out _).mono ?_;rintro e w9 ⟨rfl,Rr⟩;replace kf:=ia kf Rr;replace kr:=ia kr Rr;replace da:=ma da Rr;clear Rr cf;go_wp2
   go_roundw
   case rel=>exact ⟨i+1,np,zO,by go_num,rfl,HNP.out,kf,kr,da⟩
   case measure=>simp [intOf];omega
  ·obtain rfl:i=l.length:=by omega
   have cf:=kf.cell;go_wp2_with fail
   refine (zu.out g0 _ kr).mono ?_;rintro e w7 ⟨rfl,tG,Lt⟩;replace da:=Ef da Lt;go_wp2
   go_ret2
   exact ⟨g0,rfl,zO,tG,da⟩
def Hg (p b:Nat) (l:List Nat):Nat -> Nat -> Nat
 | 0=>fun _=>0
 | i+1 =>
  let v:=Cf (Hg p b l i) i ((Hg p b l i i+tg p (l.getD i 0))%p)
  Cf v (b+i) ((v (b+i)+l.getD i 0)%p)
theorem Vy {L:Na} (h:Nb L):Tk L.p L.block /\ ∃ j,L.block=2^j:=by
 obtain ⟨j,hj⟩:=zHA ⟨L.block,by have:=h.b2;omega⟩ (by show 1 <= L.block;have:=h.b1;omega) h.bj
 simp only at hj;exact ⟨⟨by have:=h.b1;omega,by have:=h.b2;omega,⟨_,hj⟩,h.bd⟩,_,hj⟩
theorem zBN (L:Na) (A:Option vy) (m c:Nat) (l:List Nat) (w:vw) (hL:Nb L) (hl:RWd w [ve A m c] l) (hm:m <= 65536) :
  vB prog 216 #[vf (ib L),ve A m c] w fun e w'=>∃ g,e=vl (ve (vE ⟨g,0,vD⟩) (L.block+m) (L.block+m)) /\ w.1.size <= g /\ Blk w' g 22 (Qa (L.block+m) (Hg L.p L.block l m)) /\ vA w.1.size w w':=by
 have hp:=hL.p;have h1:=hL.b1;have h2:=hL.b2;have HA:=zH (fun a b w=>mn L.p a b w hp)
 have HS:=zH (fun a b w=>NM L.p a b w hp)
 obtain ⟨rfl,-,-,-,Ra⟩:=Ob hl;obtain ⟨n,hn⟩:=zEX (L.block+l.length);rw [<- hn];have en:(L.block:Int)+l.length=(n:Int):=by omega
 have en2:=Qc n;have mk:=Xw n zO;have gb0:(0:Int)<=L.block:=by omega
 have gb:(L.block:Int) <= 256:=by omega
 have gl:(l.length:Int) <= 65536:=by omega
 have fj:=zH hn;clear hL hl hp h1 hn;unfold ib fv at *;obtain ⟨kl,kf,da,-⟩:=Yg w 101 224 #[vd vn L.p,vd vq L.block,vd vq L.queries,vd vq L.k,vd vq L.n,vd vq L.secret,vd vq L.rows,vd vq L.a,vd vq L.b,vd vq L.b,vd vq L.b] #[vd vn L.p];have hmax:max (0:Int) (L.block:Int)=L.block:=Int.max_eq_right gb0;go_enter func216,ntmps216
 go_upto_region 2 with fail
 generalize (w.alloc _).alloc _=w0 at kl kf da |-;have cl:=kl.cell;go_wp2_with fail
 have kr:=Blk.new w0 22 (Qa n fun _=>0)
 have ja:=zA w0 (.cells (Qa n fun _=>0) 22)
 have zq:w.1.size+1<w0.1.size:=kf.lt;replace kl:=ia kl ja;replace kf:=ia kf ja;replace da:=ma da ja;clear ja mk cl;generalize w0.alloc _=w5 at kl kf kr da |-;generalize w0.1.size=g0 at kr zq |-;go_loopw [21] (fun y wr=>∃ i:Nat,i <= l.length /\ y=vd vq i /\ Blk wr w.1.size 101 #[vd vn L.p,vd vq L.block,vd vq L.queries,vd vq L.k,vd vq L.n,vd vq L.secret,vd vq L.rows,vd vq L.a,vd vq L.b,vd vq L.b,vd vq L.b] /\ Blk wr (w.1.size+1) 224 #[vd vn L.p] /\ Blk wr g0 22 (Qa n (Hg L.p L.block l i)) /\ vA w.1.size w wr) (fun y _=>l.length-(intOf y).toNat)
 case atStart=>exact ⟨0,Kb _,rfl,kl,kf,kr,da⟩
 case round =>
  clear kl kf kr da;obtain ⟨i,hi,rfl,kl,kf,kr,da⟩:=hrel;by_cases WC:i<l.length
  ·have q1:(0:Int)<=i:=by omega
   have q2:(i:Int)<l.length:=by omega
   obtain ⟨b,q,rfl,Gb,hc⟩:=Rg (Ra.below da) WC;obtain ⟨y,hy⟩:=zEX (l.getD i 0);obtain ⟨t,ht⟩:=zEX (L.block+i);obtain ⟨V,hV⟩:=zEX (Hg L.p L.block l i);obtain ⟨u,hu⟩:=zEX (V i);obtain ⟨z1,ud⟩:=zEX ((u+tg L.p y)%L.p);obtain ⟨V2,hV2⟩:=zEX (Cf V i z1);obtain ⟨u2,jG⟩:=zEX (V2 t);obtain ⟨z2,Ve⟩:=zEX ((u2+y)%L.p);have Pc:i<n:=by have:=fj.out;omega
   have Ow:t<n:=by have:=fj.out;omega
   have e1:(L.block:Int)+i=(t:Int):=by omega
   have e2:=Qc t;have e3:(t:Int)<n:=by omega
   have e4:(i:Int)<n:=by omega
   have e5:(0:Int)<=t:=by omega
   have yH:=zH (show (Qa n V).setIfInBounds i (vd vn z1)=Qa n V2 by rw [Lr,hV2])
   have IS:=zH (show (Qa n V2).setIfInBounds t (vd vn z2)=Qa n (Hg L.p L.block l (i+1)) by rw [Lr,Ve,jG,hV2,ud,hu,hV,hy,ht];rfl)
   have Il:=zH (fun w=>by have:=HS.out u y w;rw [<- ud] at this;exact this)
   have Wn:=zH (fun w=>by have:=HA.out u2 y w;rw [<- Ve] at this;exact this)
   rw [<- hV] at kr;have cr:=kr.cell i;rw [Uf _ Pc,<- hu] at cr;rw [<- hy] at hc;have HU:=zH hu;have HU2:=zH jG;clear hy ht hV hu ud hV2 jG Ve;have cf:=kf.cell;have lf:=kf.lt;have lr:=kr.lt;go_upto_region 6 with fail
   refine kh (Wb) (oa) [10] [10] [0,1,2,3,4,5,6,7,8,9,10] zK zK ?_;refine lh (oa) ?_;intro Wc ea;refine Xe ?_;refine Nd oa rfl rfl rfl rfl (fun w' hR=>Il.out _) ?_
   refine zPU ?_;refine Xe ?_;refine Oo rfl rfl rfl rfl ?_;intro wh Qd;replace ea:=zM oa ea Qd;have Sb:=ma (tb wr.1.size wr).drew ea;replace kl:=ia kl Sb;replace kf:=ia kf Sb;replace kr:=ia kr Sb;replace da:=ma da Sb;clear Sb ea Qd cf lf lr cr hc;have c2:=kr.cell i;rw [Uf _ Pc,<- HU.out] at c2;have f2:=kr.frozen;go_simp;refine ⟨fun h=>Bool.noConfusion h,?_⟩
   have hg:=Zj (w:=wh) g0 i (vd vn z1);replace kl:=Fe kl hg;replace kf:=Fe kf hg;replace da:=Ef da hg;replace kr:=kr.set_ i (vd vn z1);rw [yH.out] at kr;clear hg f2 c2;generalize wh.setCell _ _=we at kl kf kr da |-;refine Up rfl ?_;have cr:=kr.cell t;rw [Uf _ Ow,<- HU2.out] at cr;have cl:=kl.cell;have ll:=kl.lt;have cf:=kf.cell;have lf:=kf.lt;have lr:=kr.lt;go_upto_region 7 with fail
   refine kh (Wb) (oa) [16] [16] [0,1,2,3,4,5,6,7,8,9,10,11,12,13,14,15,16] zK zK ?_;refine lh (oa) ?_;intro Wc ea;refine Xe ?_;refine Nd oa rfl rfl rfl rfl (fun w' hR=>Wn.out _) ?_
   refine zPU ?_;refine Xe ?_;refine Oo rfl rfl rfl rfl ?_;intro wh Qd;replace ea:=zM oa ea Qd;have Sb:=ma (tb we.1.size we).drew ea;replace kl:=ia kl Sb;replace kf:=ia kf Sb;replace kr:=ia kr Sb;replace da:=ma da Sb;clear Sb ea Qd cf lf lr cr cl ll;have c2:=kr.cell t;rw [Uf _ Ow,<- HU2.out] at c2;have f2:=kr.frozen;go_simp;refine ⟨fun h=>Bool.noConfusion h,?_⟩
   have hg:=Zj (w:=wh) g0 t (vd vn z2);replace kl:=Fe kl hg;replace kf:=Fe kf hg;replace da:=Ef da hg;replace kr:=kr.set_ t (vd vn z2);rw [IS.out] at kr;clear hg f2 c2;generalize wh.setCell _ _=wi at kl kf kr da |-;refine Up rfl ?_;go_wp2
   go_roundw
   case rel=>exact ⟨i+1,zO,by go_num,kl,kf,kr,da⟩
   case measure=>simp [intOf];omega
  ·obtain rfl:l.length=i:=by omega
   go_wp2;go_ret
   exact ⟨g0,rfl,zO,kr,da⟩
def LG (p nb:Nat) (A B:Nat -> Nat):Nat -> Nat:=fun k=>if k<nb then (A k+B k)%p else A k
theorem zFF (L:Na) (g gb m nb:Nat) (a b:Nat -> Nat) (w:vw) (hL:Nb L) (ka:Blk w g 22 (Qa m a)) (kb:Blk w gb 22 (Qa nb b)) (hg:g≠gb) (hm:m <= 65536) (Gw:nb <= m) :
  vB prog 217 #[vf (ib L),ve (vE ⟨g,0,vD⟩) m m,ve (vE ⟨gb,0,vD⟩) nb nb] w fun e w'=>e=vl (ve (vE ⟨g,0,vD⟩) m m) /\ Blk w' g 22 (Qa m (LG L.p nb a b)) /\ w.grownBy w' (vE g):=by
 have hp:=hL.p;have HA:=zH (fun a b w=>mn L.p a b w hp)
 have ZU:min (m:Int) (nb:Int)=nb:=Int.min_eq_right zO;have gl:(m:Int) <= 65536:=by omega
 have gl2:(nb:Int) <= 65536:=by omega
 have lg:=ka.lt;have lgb:=kb.lt;clear hL hp;unfold ib fv at *;obtain ⟨kl,kf,da,-⟩:=Yg w 101 224 #[vd vn L.p,vd vq L.block,vd vq L.queries,vd vq L.k,vd vq L.n,vd vq L.secret,vd vq L.rows,vd vq L.a,vd vq L.b,vd vq L.b,vd vq L.b] #[vd vn L.p];have g1:w.1.size+1≠g:=by omega
 replace ka:=ia ka da;replace kb:=ia kb da;have Wa:=Vf (Ce w (vE g)) da zR;clear da kl;go_enter func217,ntmps217
 go_upto_region 2 with fail
 generalize (w.alloc _).alloc _=w0 at kf ka kb Wa |-;rw [show Qa m a=Qa m (fun k=>if k<0 then (a k+b k)%L.p else a k) from Ol fun i _=>by rw [ya zO]] at ka
 go_wp2_with fail
 go_loopw [17] (fun y wr=>∃ i:Nat,i <= nb /\ y=vd vq i /\ Blk wr (w.1.size+1) 224 #[vd vn L.p] /\ Blk wr g 22 (Qa m (fun k=>if k<i then (a k+b k)%L.p else a k)) /\ Blk wr gb 22 (Qa nb b) /\ w.grownBy wr (vE g)) (fun y _=>nb-(intOf y).toNat)
 case atStart=>exact ⟨0,Kb _,rfl,kf,ka,kb,Wa⟩
 case round =>
  clear kf ka kb Wa;obtain ⟨i,hi,rfl,kf,ka,kb,Wa⟩:=hrel;by_cases WC:i<nb
  ·have q1:(0:Int)<=i:=by omega
   have q2:(i:Int)<nb:=by omega
   have q3:(i:Int)<m:=by omega
   have SC:i<m:=by omega
   obtain ⟨x,hx⟩:=zEX (a i);obtain ⟨y,hy⟩:=zEX (b i);obtain ⟨z,hz⟩:=zEX ((x+y)%L.p);have xg:=zH (show (Qa m (fun k=>if k<i then (a k+b k)%L.p else a k)).setIfInBounds i (vd vn z)=Qa m (fun k=>if k<i+1 then (a k+b k)%L.p else a k) from oE (F:=fun k=>(a k+b k)%L.p) (G:=a) (by rw [hz,hx,hy]))
   have HC:=zH (fun w=>by have:=HA.out x y w;rw [<- hz] at this;exact this)
   have HX:=zH (show (Qa m (fun k=>if k<i then (a k+b k)%L.p else a k))[i]?=vE (vd vn x) by rw [Uf _ SC,hx];simp)
   have ca:=ka.cell i;rw [HX.out] at ca;have cb:=kb.cell i;rw [Uf _ WC,<- hy] at cb;clear hx hy hz;have cf:=kf.cell;have lf:=kf.lt;have la:=ka.lt;have lb:=kb.lt;go_upto_region 5 with fail
   refine kh (Wb) (oa) [13] [13] [0,1,2,3,4,5,6,7,8,9,10,11,12,13] zK zK ?_;refine lh (oa) ?_;intro Wc ea;refine Xe ?_;refine Nd oa rfl rfl rfl rfl (fun w' hR=>HC.out _) ?_
   refine zPU ?_;refine Xe ?_;refine Oo rfl rfl rfl rfl ?_;intro wh Qd;replace ea:=zM oa ea Qd;have Sb:=ma (tb wr.1.size wr).drew ea;have QC:=Vf Wa Sb Wa.size;replace kf:=ia kf Sb;replace ka:=ia ka Sb;replace kb:=ia kb Sb;clear Sb ea Qd cf lf la lb ca cb Wa;have c2:=ka.cell i;rw [HX.out] at c2;have f2:=ka.frozen;go_simp;refine ⟨fun h=>Bool.noConfusion h,?_⟩
   have ah:=Zj (w:=wh) g i (vd vn z);replace kf:=Fe kf ah;replace kb:=Fe kb ah;replace ka:=ka.set_ i (vd vn z);rw [xg.out] at ka;have Wa:=Mr QC ah (fun _ e=>.inl e)
   clear ah f2 c2 QC;generalize wh.setCell _ _=we at kf ka kb Wa |-;refine Up rfl ?_;go_wp2
   go_roundw
   case rel=>exact ⟨i+1,zO,by go_num,kf,ka,kb,Wa⟩
   case measure=>simp [intOf];omega
  ·obtain rfl:nb=i:=by omega
   go_wp2;go_ret
   exact ⟨rfl,ka,Wa⟩
def uv (L:Na) (msg Bf:List Nat):Nat -> Nat:=LG L.p L.block (Hg L.p L.block Bf Bf.length) (Dn L.p L.block L.block.log2 msg)
theorem K7 (L:Na) (A B:Option vy) (n c m d:Nat) (msg Bf:List Nat) (w:vw) (hL:Nb L) (hl:RWd w [ve A n c] msg) (hk:RWd w [ve B m d] Bf) (hn:n=L.block) (hm:m <= 60000) :
  vB prog 126 #[vf (ib L),ve A n c,ve B m d] w fun e w'=>∃ g,e=vl (ve (vE ⟨g,0,vD⟩) (L.block+m) (L.block+m)) /\ w.1.size <= g /\ Blk w' g 22 (Qa (L.block+m) (uv L msg Bf)) /\ vA w.1.size w w':=by
 have Ba:=hL.b2;obtain ⟨hlen,j,hj⟩:=Vy hL;have Xu:L.block.log2=j:=by rw [hj];exact Sz
 have Tj:=(Ob hk).1;subst hn;have HI:=zH (fun w' (hb:vA w.1.size w w')=>aS L.p A L.block c j msg w' hL.p (Ab hb hl) hlen hj)
 have HV:=zH (fun w' (hb:vA w.1.size w w')=>zBN L B m d Bf w' hL (Ab hb hk) zO)
 have HA:=zH (fun g gb a b w ka kb hg=>zFF L g gb (L.block+m) L.block a b w hL ka kb hg zO zO)
 have HR:=zH (show uv L msg Bf=LG L.p L.block (Hg L.p L.block Bf m) (Dn L.p L.block j msg) by unfold uv;rw [Xu,Tj])
 rw [HR.out];clear Xu Tj hlen hj hL hl hk;unfold ib fv at *;obtain ⟨kl,da⟩:=zN w 101 #[vd vn L.p,vd vq L.block,vd vq L.queries,vd vq L.k,vd vq L.n,vd vq L.secret,vd vq L.rows,vd vq L.a,vd vq L.b,vd vq L.b,vd vq L.b];generalize Hg L.p L.block Bf m=V at *;generalize Dn L.p L.block j msg=I at *;obtain ⟨t,ht⟩:=zEX (L.block+m);rw [<- ht] at HV HA |-;clear ht HR;go_enter func126,ntmps126
 go_wp2_with fail
 generalize w.alloc _=w0 at kl da |-;refine (HI.out _ da).mono ?_;rintro e w1 ⟨g1,rfl,og,k1,Ia⟩;have Bk:=kl.lt;replace kl:=ia kl Ia;replace da:=ma da Ia;clear Ia;have cl:=kl.cell;go_wp2_with fail
 refine (HV.out _ da).mono ?_;rintro e w2 ⟨g2,rfl,Jp,k2,Ta⟩;have Yr:=k1.lt;replace kl:=ia kl Ta;replace k1:=ia k1 Ta;replace da:=ma da Ta;clear Ta cl;have cl:=kl.cell;have Sa:g2≠g1:=by omega
 go_wp2_with fail
 refine (HA.out g2 g1 V I _ k2 k1 Sa).mono ?_;rintro e w3 ⟨rfl,k3,ah⟩;have PC:w.1.size <= g2:=by have:=da.size;omega
 replace da:=da.trans (Er ah da.size PC);go_wp2;go_ret
 exact ⟨g2,rfl,PC,k3,da⟩
theorem J7 (L:Na) (v0 v1 v2 v4:vx) (A:Option vy) (n c:Nat) (l:List Nat) (w:vw) (hL:Nb L) (h0:slc v0) (h1:slc v1) (h2:slc v2) (h4:slc v4) (hl:RWd w [ve A n c] l) (hn:n <= 60000) :
  vB prog 129 #[vf (ib L),vf #[v0,v1,v2,ve A n c,v4]] w fun e w'=>∃ g,e=vl (ve (vE ⟨g,0,vD⟩) (L.block+n) (L.block+n)) /\ w.1.size <= g /\ Blk w' g 22 (Qa (L.block+n) (Hg L.p L.block l n)) /\ vA w.1.size w w':=by
 have HV:=zH (fun w' (hb:vA w.1.size w w')=>zBN L A n c l w' hL (Ab hb hl) zO)
 obtain ⟨A0,n0,c0,rfl⟩:=h0;obtain ⟨A1,n1,c1,rfl⟩:=h1;obtain ⟨A2,n2,c2,rfl⟩:=h2;obtain ⟨A4,n4,c4,rfl⟩:=h4;clear hL hl;generalize Hg L.p L.block l n=V at *;obtain ⟨t,ht⟩:=zEX (L.block+n);rw [<- ht] at HV |-;clear ht;unfold ib at *;obtain ⟨kl,kc,da,-⟩:=Yg w 101 41 #[vd vn L.p,vd vq L.block,vd vq L.queries,vd vq L.k,vd vq L.n,vd vq L.secret,vd vq L.rows,vd vq L.a,vd vq L.b,vd vq L.b,vd vq L.b] #[ve A0 n0 c0,ve A1 n1 c1,ve A2 n2 c2,ve A n c,ve A4 n4 c4];go_enter func129,ntmps129
 go_wp2_with fail
 refine (HV.out _ da).mono ?_;rintro e w1 ⟨g1,rfl,og,k1,Ia⟩;have hs:=da.size;go_wp2;go_ret
 exact ⟨g1,rfl,zO,k1,ma da Ia⟩
theorem zDc (A:Option vy) (n c:Nat) (l:List Nat) (w:vw) (hl:RWd w [ve A n c] l) (hn:n <= 60000) :
  vB prog 218 #[ve A n c] w fun e w'=>∃ v,e=vl v /\ w'.ownsRow w.1.size 22 1 v n (Oa l) /\ vA w.1.size w w':=by
 obtain ⟨rfl,h1,h2,ta,Ra⟩:=Ob hl;clear hl;have aG:=fun (w:vw) (a:Option vy) (n c:Nat)=>Lib.run_eql_slice_nil (P:=prog) w 28 22 a n c 0 0 underlying28
 cases A with
 | none =>
  have h0:l.length=0:=by
   rcases dp l.length with h | h
   ·exact h
   ·obtain ⟨ad,e,-⟩:=Ra.2 h
    cases e
  have Ky:l=[]:=UE h0;subst Ky;clear Ra h0 ta;go_enter func218,ntmps218
  go_wp2_with fail
  go_ret
  exact ⟨_,rfl,⟨rfl, .inl ⟨rfl,rfl⟩⟩,tb _ _⟩
 | some ad =>
  have gl:(l.length:Int) <= 60000:=by omega
  have ja:=zA w (.cells #[] 22);go_enter func218,ntmps218
  go_wp2_with (at_builtin;refine Ok rfl _ _ rfl Et rfl (GN w 22 zR) rfl (Ra.alloc _) (Lq l) zO zS ?_)
  intro v' wn Tb Va Cc;have hB:=Sp (GN w 22 zR) Va zS;go_wp2;go_ret
  exact ⟨_,rfl,Tb,ja.trans hB⟩
theorem H7 (L:Na) (v0 v2 v3 v4:vx) (A:Option vy) (n c:Nat) (l:List Nat) (w:vw) (h0:slc v0) (h2:slc v2) (h3:slc v3) (h4:slc v4) (hl:RWd w [ve A n c] l) (hn:n <= 60000) :
  vB prog 127 #[vf (ib L),vf #[v0,ve A n c,v2,v3,v4]] w fun e w'=>∃ v,e=vl v /\ w'.ownsRow w.1.size 22 1 v n (Oa l) /\ vA w.1.size w w':=by
 have HV:=zH (fun w' (hb:vA w.1.size w w')=>zDc A n c l w' (Ab hb hl) hn)
 obtain ⟨A0,n0,c0,rfl⟩:=h0;obtain ⟨A2,n2,c2,rfl⟩:=h2;obtain ⟨A3,n3,c3,rfl⟩:=h3;obtain ⟨A4,n4,c4,rfl⟩:=h4;clear hl;unfold ib at *;obtain ⟨kl,kc,da,-⟩:=Yg w 101 41 #[vd vn L.p,vd vq L.block,vd vq L.queries,vd vq L.k,vd vq L.n,vd vq L.secret,vd vq L.rows,vd vq L.a,vd vq L.b,vd vq L.b,vd vq L.b] #[ve A0 n0 c0,ve A n c,ve A2 n2 c2,ve A3 n3 c3,ve A4 n4 c4];go_enter func127,ntmps127
 go_wp2_with fail
 refine (HV.out _ da).mono ?_;rintro e w1 ⟨v,rfl,ho,Ia⟩;obtain ⟨A1,c1,rfl,-⟩:=Ud ho;go_wp2;go_ret
 exact ⟨_,rfl,yv ho da.size,ma da Ia⟩
def Xy (p b:Nat) (l:List Nat):Nat -> Nat
 | 0=>0
 | k+1=>(Xy p b l k+tg p (l.getD ((k+1)*b-1) 0))%p
def Fg (L:Na) (l:List Nat):List Nat:=Xy L.p L.block l (l.length / L.block) :: l
theorem I7 (L:Na) (v0 v1 v3 v4:vx) (A:Option vy) (n c:Nat) (l:List Nat) (w:vw) (hL:Nb L) (h0:slc v0) (h1:slc v1) (h3:slc v3) (h4:slc v4) (hl:RWd w [ve A n c] l) (hn:n <= 60000) :
  vB prog 128 #[vf (ib L),vf #[v0,v1,ve A n c,v3,v4]] w fun e w'=>∃ v,e=vl v /\ w'.ownsRow w.1.size 22 1 v (n+1) (Oa (Fg L l)) /\ vA w.1.size w w':=by
 have hp:=hL.p;have Ia:=hL.b1;have Ba:=hL.b2;have HS:=zH (fun a b w=>NM L.p a b w hp)
 obtain ⟨rfl,td,Ej,ta,Ra⟩:=Ob hl;obtain ⟨A0,n0,c0,rfl⟩:=h0;obtain ⟨A1,n1,c1,rfl⟩:=h1;obtain ⟨A3,n3,c3,rfl⟩:=h3;obtain ⟨A4,n4,c4,rfl⟩:=h4;clear hl hL td Ej hp;have gb:(L.block:Int) <= 256:=by omega
 have gb1:(2:Int)<=L.block:=by omega
 unfold ib fv at *;obtain ⟨kl,kc,kf,da,jb⟩:=oq w 101 41 224 #[vd vn L.p,vd vq L.block,vd vq L.queries,vd vq L.k,vd vq L.n,vd vq L.secret,vd vq L.rows,vd vq L.a,vd vq L.b,vd vq L.b,vd vq L.b] #[ve A0 n0 c0,ve A1 n1 c1,ve A l.length c,ve A3 n3 c3,ve A4 n4 c4] #[vd vn L.p];go_enter func128,ntmps128
 go_upto_region 2 with fail
 generalize ((w.alloc _).alloc _).alloc _=w1 at kl kc kf da jb |-;have HZ:=zH jb;clear jb;have Cj:=Ra.below da;have Jk:=World.ownsRow_lit (base:=w1.1.size) (e:=22) (size:=1) w1 #[vd vn 0] 1 zR (by simp [maxLen]) rfl
 have ja:=zA w1 (.cells #[vd vn 0] 22);have cc:=kc.cell;have lc:=kc.lt;go_upto_region 3 with (at_builtin;refine Ok rfl _ _ rfl Et rfl Jk rfl (Cj.below ja) (Lq l) zO zS ?_;intro v' w2 Ca Va Cc)
 have hB:=Sp Jk Va zS;replace hB:=ja.trans hB;clear Jk Va Cc ja Cj cc lc;replace kl:=ia kl hB;replace kf:=ia kf hB;replace da:=ma da hB;clear hB kc;obtain ⟨g,cap,rfl,og,-⟩:=World.ownsRow.form Ca zO;have Jp:w.1.size+3 <= g:=by have:=HZ.out;omega
 have e0:(1+l.length)=l.length+1:=Nat.add_comm _ _;rw [e0] at Ca |-;replace Ca:w2.ownsRow w.1.size 22 1 (ve (vE ⟨g,0,vD⟩) (l.length+1) cap) (l.length+1) (Oa (0 :: l)):=yv Ca (zQ HZ.out);obtain ⟨n,Ag⟩:=zEX (l.length+1);rw [<- Ag] at Ca |-;have fj:=zH Ag;clear Ag e0 og HZ;have gn:(n:Int) <= 60001:=by have:=fj.out;omega
 have cl:=kl.cell;go_wp2_with fail
 clear cl;go_loopw [7] (fun y wr=>∃ k i:Nat,y=vd vq i /\ Hid (i=(k+1)*L.block /\ k*L.block <= l.length) /\ i <= 61000 /\ 1 <= i /\ Blk wr w.1.size 101 #[vd vn L.p,vd vq L.block,vd vq L.queries,vd vq L.k,vd vq L.n,vd vq L.secret,vd vq L.rows,vd vq L.a,vd vq L.b,vd vq L.b,vd vq L.b] /\ Blk wr (w.1.size+1+1) 224 #[vd vn L.p] /\ wr.ownsRow w.1.size 22 1 (ve (vE ⟨g,0,vD⟩) n cap) n (Oa (Xy L.p L.block l k :: l)) /\ vA w.1.size w wr) (fun y _=>61000-(intOf y).toNat)
 case atStart=>exact ⟨0,L.block,rfl,⟨zO,zO⟩,zO,zO,kl,kf,Ca,da⟩
 case round =>
  clear kl kf Ca da;obtain ⟨k,i,rfl,HK,Cw,Si,kl,kf,Ca,da⟩:=hrel;have q0:(0:Int)<i:=by omega
  have q9:(i:Int) <= 61000:=by omega
  by_cases WC:i<n
  ·have q1:(i:Int)<n:=by omega
   have q2:(0:Int)<=i:=by omega
   have q3:(0:Int)<n:=by omega
   have q5:0<n:=by omega
   obtain ⟨x,hx⟩:=zEX (Xy L.p L.block l k);obtain ⟨y,hy⟩:=zEX (l.getD (i-1) 0);obtain ⟨z,hz⟩:=zEX ((x+tg L.p y)%L.p);obtain ⟨t,ht⟩:=zEX (i+L.block);have e1:(i:Int)+L.block=(t:Int):=by omega
   have e2:=Qc t;have xg:=zH (show (Oa (x :: l)).set 0 (vd vn z)=Oa (Xy L.p L.block l (k+1) :: l) by
    rw [hz,hx,hy,HK.out.1];rfl)
   have HT:Hid (t=(k+1+1)*L.block /\ (k+1)*L.block <= l.length):=by
    have h:=HK.out;have h2:=fj.out;have h3:(k+1+1)*L.block=(k+1)*L.block+L.block:=Nat.succ_mul _ _;exact ⟨zO,zO⟩
   have ht3:t <= 61000:=by have:=fj.out;omega
   have ht4:1 <= t:=by omega
   have HC:=zH (fun w=>by have:=HS.out x y w;rw [<- hz] at this;exact this)
   rw [<- hx] at Ca;have c0:wr.cell? ⟨g,0,vD⟩=vE (vd vn x):=by rw [Ca.cellAt 0 zO];rfl
   have ci:wr.cell? ⟨g,i,vD⟩=vE (vd vn y):=by
    rw [Ca.cellAt i zO,ZB (by simp;have:=fj.out;omega)]
    have:(x :: l)[i]'(by simp;have:=fj.out;omega)=y:=by
     rw [hy,List.getElem_cons,dif_neg zO,Fb,Qb (show i-1<l.length by have:=fj.out;omega)]
     rfl
    rw [this]
   clear hx hy hz ht HK;have cf:=kf.cell;have lf:=kf.lt;have lg:g<wr.1.size:=Gf _ _ c0;go_upto_region 6 with fail
   refine kh (Wb) (oa) [11] [11] [0,1,2,3,4,5,6,7,8,9,10,11] zK zK ?_;refine lh (oa) ?_;intro Wc ea;refine Xe ?_;refine Nd oa rfl rfl rfl rfl (fun w' hR=>HC.out _) ?_
   refine zPU ?_;refine Xe ?_;refine Oo rfl rfl rfl rfl ?_;intro wh Qd;replace ea:=zM oa ea Qd;have Sb:=ma (tb wr.1.size wr).drew ea;replace kl:=ia kl Sb;replace kf:=ia kf Sb;replace Ca:=Mc Ca Sb zR;replace da:=ma da Sb;clear Sb ea Qd cf lf lg c0 ci;have c2:wh.cell? ⟨g,0,vD⟩=vE (vd vn x):=by rw [Ca.cellAt 0 zO];rfl
   have f2:=Ca.frozenAt;go_simp;refine ⟨fun h=>Bool.noConfusion h,?_⟩
   obtain ⟨Iw,hg⟩:=Ca.stored 0 (vd vn z);rw [xg.out] at Iw;replace kl:=Fe kl hg;replace kf:=Fe kf hg;replace da:=Ef da hg;clear hg f2 c2 Ca;generalize wh.setCell _ _=we at kl kf Iw da |-;refine Up rfl ?_;have cl:=kl.cell;go_wp2_with fail
   go_roundw
   case rel=>exact ⟨k+1,t,by go_num,HT.out,ht3,ht4,kl,kf,Iw,da⟩
   case measure=>simp [intOf];omega
  ·have q1:¬((i:Int)<n):=by omega
   have HE:=zH (show Xy L.p L.block l k=Xy L.p L.block l (l.length / L.block) by
    have h:=HK.out;have h2:=fj.out;have:l.length / L.block=k:=by
     rw [Nat.div_eq_iff zO];have h3:(k+1)*L.block=k*L.block+L.block:=Nat.succ_mul _ _;omega
    rw [this])
   go_wp2;go_ret
   rw [HE.out] at Ca;exact ⟨_,rfl,by rw [<- fj.out];exact Ca,da⟩
theorem mU (p a n:Nat) (w:vw) (hp:Jb p=true) (hn:n <= 65536) :
  vB prog 226 #[fv p,vd vn a,vd vq n] w fun e w'=>∃ g,e=vl (ve (vE ⟨g,0,vD⟩) n n) /\ w.1.size <= g /\ Blk w' g 22 (Qa n fun i=>a^i%p) /\ vA w.1.size w w':=by
 obtain ⟨zf,Kd⟩:=Rb hp;have HV:=zH (fun w=>zp p w hp)
 have HR:=zH (fun w=>sC p a w zO)
 obtain ⟨F,hF⟩:∃ F:Nat -> Nat,F=fun i=>a^i%p:=⟨_,rfl⟩
 obtain ⟨r,hr⟩:=zEX (a%p);have HM:=zH (show ∀ i (w:vw),vB prog 227 #[fv p,vd vn (F i:Int),vd vn r] w fun e w'=>e=vl (vd vn (F (i+1):Int)) /\ vA w.1.size w w' from fun i w=>by
  have:=FP p (a^i%p) (a%p) w hp (mc _ zO) (mc _ zO);rw [<- Nat.mul_mod,<- Sf] at this;rw [hF,hr];exact this)
 have H0:=zH (show F 0=1 by rw [hF];show a^0%p=1;rw [Nat.pow_zero];exact qj zO)
 rw [<- hr] at HR;rw [<- hF];have mk:=Xw n zO;have g0:(0:Int)<=n:=by omega
 have g1:(n:Int) <= 65536:=by omega
 unfold fv at *;obtain ⟨kf,da⟩:=zN w 224 #[vd vn p];clear hp hF hr;go_enter func226,ntmps226
 go_wp2_with fail
 generalize w.alloc _=w1 at kf da |-;refine (HV.out _).mono ?_;rintro e w2 ⟨rfl,xa⟩;replace kf:=ia kf xa;replace da:=ma da xa;clear xa;have cf:=kf.cell;go_wp2_with fail
 refine (HR.out _).mono ?_;rintro e w3 ⟨rfl,xa⟩;replace kf:=ia kf xa;replace da:=ma da xa;clear xa cf;go_wp2_with fail
 have kr:=Blk.new w3 22 (Qa n fun _=>0)
 have yk:=zA w3 (.cells (Qa n fun _=>0) 22)
 generalize w3.alloc _=w5 at kr yk |-;have HZ:=zH (jK n F fun _=>0)
 clear mk HR HV;go_loopw [8,28] (fun pw y wr=>∃ i:Nat,i <= n /\ y=vd vq i /\ pw=vd vn (F i:Int) /\ Blk wr w3.1.size 22 (Qa n (ni F (fun _=>0) i)) /\ vA w3.1.size w3 wr) (fun _ y _=>n-(intOf y).toNat)
 case atStart=>exact ⟨0,Kb _,rfl,by rw [H0.out];rfl,by rw [HZ.out];exact kr,yk⟩
 case round =>
  clear kr yk;obtain ⟨i,hi,rfl,rfl,kr,yk⟩:=hrel;by_cases ta:i<n
  ·have q1:(i:Int)<n:=by omega
   have q2:(0:Int)<=i:=by omega
   have cr:=kr.cell i;rw [nE _ _ ta] at cr;have fr:=kr.frozen;obtain ⟨x,hx⟩:=zEX (F i);obtain ⟨z,hz⟩:=zEX (F (i+1));have HS:=zH (oE (n:=n) (G:=fun _=>0) hx)
   have Of:=zH (fun w=>by have:=HM.out i w;rw [<- hx,<- hz] at this;exact this)
   have FH:=zH hz;rw [<- hx];clear hx hz;have yc:=ia kf yk;have hlf:=kf.lt;have hg:=Zj (w:=wr) w3.1.size i (vd vn x);have uf:=kr.set_ i (vd vn x);rw [HS.out] at uf;have pg:=yc.grown hg (fun e=>by have:=Ya e;omega)
   have Ba:=yk.trans (Er hg yk.size zR);have cf:=pg.cell;go_wp2_with fail
   clear cf hg cr fr yc;generalize wr.setCell _ _=w6 at uf pg Ba |-;refine (Of.out _).mono ?_;rintro e w7 ⟨rfl,xa⟩;replace uf:=ia uf xa;replace Ba:=ma Ba xa;go_wp2
   go_roundw
   case rel=>exact ⟨i+1,zO,by go_num,by rw [<- FH.out],uf,Ba⟩
   case measure=>simp [intOf];omega
  ·obtain rfl:i=n:=by omega
   have q1:¬((i:Int)<i):=by omega
   rw [OL] at kr;go_wp2;go_ret
   exact ⟨_,rfl,da.size,kr,ma da yk⟩
def Pu (p:Nat) (a b:List Nat):Nat -> Nat
 | 0=>0
 | k+1=>(Pu p a b k+a.getD k 0%p*(b.getD k 0%p)%p)%p
theorem zDJ {p:Nat} (hp:0<p) (a b:List Nat):∀ k,Pu p a b k<p
 | 0=>hp
 | _+1=>mc _ hp
theorem zD7 (p:Nat) (A B:Option vy) (n c m d:Nat) (a b:List Nat) (w:vw) (hp:Jb p=true) (ha:RWd w [ve A n c] a) (hb:RWd w [ve B m d] b) (hnm:n=m) :
  vB prog 294 #[fv p,ve A n c,ve B m d] w fun e w'=>e=vl (vd vn (Pu p a b n:Int)) /\ vA w.1.size w w':=by
 subst hnm;obtain ⟨CA,hac,hax,-,hra⟩:=Ob ha;obtain ⟨Gw,-,-,-,hrb⟩:=Ob hb;have gm:=Mm hac hax;obtain ⟨zf,Kd⟩:=Rb hp;have HV:=zH (fun w=>zp p w hp)
 have HR:=zH (fun x w=>sC p x w zO)
 have HM:=zH (fun x y w hx hy=>FP p x y w hp hx hy)
 have HA:=zH (fun x y w hx hy=>Q2 p x y w hp hx hy)
 have HL:=zH (fun x:Nat=>mc x (show 0<p by omega))
 have HD:=zH (fun k=>zDJ (p:=p) zO a b k)
 obtain ⟨S,hS⟩:=zEX (Pu p a b);rw [<- hS] at HD |-;have xr:=zH (show S 0=0 by rw [hS];rfl)
 have HSS:=zH (show ∀ k,S (k+1)=(S k+a.getD k 0%p*(b.getD k 0%p)%p)%p from fun k=>by rw [hS];rfl)
 have HNA:=zH CA;have Ox:=zH Gw;have ZU:min (n:Int) (n:Int)=n:=Int.min_self _;unfold fv at *;obtain ⟨kf,da⟩:=zN w 224 #[vd vn p];clear hS CA Gw hp ha hb hac hax zf;go_enter func294,ntmps294
 go_wp2_with fail
 generalize w.alloc _=w1 at kf da |-;refine (HV.out _).mono ?_;rintro e w2 ⟨rfl,xa⟩;replace kf:=ia kf xa;replace da:=ma da xa;clear xa;go_wp2_with fail
 go_loopw [7,17] (fun s y wr=>∃ i:Nat,i <= n /\ y=vd vq i /\ s=vd vn (S i:Int) /\ Blk wr w.1.size 224 #[vd vn p] /\ vA w.1.size w wr) (fun _ y _=>n-(intOf y).toNat)
 case atStart=>exact ⟨0,Kb _,rfl,by rw [xr.out];rfl,kf,da⟩
 case round =>
  clear kf da;obtain ⟨i,hi,rfl,rfl,kf,da⟩:=hrel;by_cases ta:i<n
  ·have q1:(i:Int)<n:=by omega
   have q2:(0:Int)<=i:=by omega
   obtain ⟨b1,Oq,rfl,OI,Ad⟩:=Rg (l:=a) (A:=A) (by rw [<- HNA.out];exact hra) (j:=i) (by rw [<- HNA.out];exact ta)
   obtain ⟨b2,q2',rfl,nw,Xf⟩:=Rg (l:=b) (A:=B) (by rw [<- Ox.out];exact hrb) (j:=i) (by rw [<- Ox.out];exact ta)
   have c1:=(da.cell (p:=⟨b1,Oq+i,vD⟩) OI).trans Ad;have c2:=(da.cell (p:=⟨b2,q2'+i,vD⟩) nw).trans Xf;have Lz:=zH (HSS.out i);obtain ⟨x,hx⟩:=zEX (a.getD i 0);obtain ⟨y,hy⟩:=zEX (b.getD i 0);rw [<- hx] at c1 Lz;rw [<- hy] at c2 Lz;obtain ⟨x1,td⟩:=zEX (x%p);obtain ⟨y1,Ie⟩:=zEX (y%p);obtain ⟨z,hz⟩:=zEX (x1*y1%p);obtain ⟨s,hs⟩:=zEX (S i);obtain ⟨s1,Xc⟩:=zEX ((s+z)%p);rw [<- td,<- Ie,<- hz,<- hs,<- Xc] at Lz;have HX:=zH (fun w=>by have:=HR.out x w;rw [<- td] at this;exact this)
   have HY:=zH (fun w=>by have:=HR.out y w;rw [<- Ie] at this;exact this)
   have HZ:=zH (fun w=>by have:=HM.out x1 y1 w (by rw [td];exact HL.out _) (by rw [Ie];exact HL.out _);rw [<- hz] at this;exact this)
   have HW:=zH (fun w=>by have:=HA.out s z w (by rw [hs];exact HD.out _) (by rw [hz];exact HL.out _);rw [<- Xc] at this;exact this)
   rw [<- hs];have cf:=kf.cell;have lf:=kf.lt;clear hx hy td Ie hz hs Xc Ad Xf;have lb1:b1<wr.1.size:=Gf _ _ c1;have lb2:b2<wr.1.size:=Gf _ _ c2;go_upto_region 7 with fail
   refine zd (Wb) [8,14,15,16] [0,1,2,3,4,5,6,7,9,10,11,12,13,8,14,15,16,17] zK zK ?_;refine Ue (oa) ?_;intro Wc Ja ea;have Ma:=jg Ja;refine Pb ?_;refine Ic oa rfl rfl rfl ((HX.out _).mono ?_);rintro e w4 ⟨rfl,xa⟩;refine ⟨_,rfl,xa,?_⟩;replace ea:=zM oa ea (xa);refine zPU ?_;refine Pb ?_;refine Ic oa rfl rfl rfl ((HY.out _).mono ?_);rintro e w5 ⟨rfl,Em⟩;refine ⟨_,rfl,Em,?_⟩;replace ea:=zM oa ea (Em);refine zPU ?_;refine Pb ?_;refine Ic oa rfl rfl rfl ((HZ.out _).mono ?_);rintro e w6 ⟨rfl,xq⟩;refine ⟨_,rfl,xq,?_⟩;replace ea:=zM oa ea (xq);refine zPU ?_;refine Pb ?_;refine Ic oa rfl rfl rfl ((HW.out _).mono ?_);rintro e w7 ⟨rfl,Ib⟩;refine ⟨_,rfl,Ib,?_⟩;replace ea:=zM oa ea (Ib);refine zPU ?_;refine Pb ?_;refine Hc ?_;have Fp:=ma (ma (ma (ma Ma xa) Em) xq) Ib;replace kf:=ia kf Fp;replace da:=ma da Fp;clear Fp Ma xa Em xq Ib ea Ja cf lf c1 c2 lb1 lb2;go_wp2_with fail
   go_roundw
   case rel=>exact ⟨i+1,zO,by go_num,by rw [Lz.out],kf,da⟩
   case measure=>simp [intOf];omega
  ·obtain rfl:i=n:=by omega
   have q1:¬((i:Int)<i):=by omega
   go_wp2;go_ret
   exact ⟨rfl,da⟩
def Rj (l:List Nat) (n p:Nat):Bool:=decide (l.length=n)&&l.all fun x=>decide (x<p)
theorem zDX (x p B:Nat) (w:vw) (hc:w.cell? ⟨B,0,vD⟩=vE (vd vn p)) :
  vB prog 213 #[vd vn x, .pointer (vE ⟨B,0,vD⟩)] w fun e w'=>e=vl (.bool (decide (p <= x))) /\ vA w.1.size w w':=by
 obtain ⟨v,hv⟩:=zEX (decide (p <= x));have e1:decide ((p:Int)<=x)=v:=by rw [hv];by_cases h:p <= x <;> simp [h]
 rw [<- hv];have HV:=zH hv.symm;clear hv;go_enter func213,ntmps213
 go_wp2_with fail
 go_ret
 exact ⟨by first | rfl | (simp [HV.out]),tb _ _⟩
theorem SY {l:List Nat} {p i:Nat} (h:(l.take i).all (fun x=>decide (x<p))=true) (hi:i<l.length) (hx:¬p <= l.getD i 0):(l.take (i+1)).all (fun x=>decide (x<p))=true:=by
 rw [wN l i hi,List.all_append,h];have:decide (l.getD i 0<p)=true:=xb zO;rw [List.all_cons,this]
 rfl
theorem RY {l:List Nat} {p i:Nat} (hi:i<l.length) (hx:p <= l.getD i 0):l.all (fun x=>decide (x<p))=false:=by
 rw [Oz];refine ⟨l.getD i 0,?_,by rw [decide_eq_true_iff];omega⟩
 rw [Fb,Qb hi];exact He _
theorem zEV (A:Option vy) (n c p B:Nat) (l:List Nat) (w:vw) (hl:RWd w [ve A n c] l) (hc:w.cell? ⟨B,0,vD⟩=vE (vd vn p)) :
  vB prog 278 #[ve A n c, .func (.func 213) #[] #[.pointer (vE ⟨B,0,vD⟩)]] w fun e w'=>∃ r:Int,e=vl (vd vq r) /\ decide (0 <= r)=!(l.all fun x=>decide (x<p)) /\ vA w.1.size w w':=by
 obtain ⟨rfl,h1,h2,ta,Ra⟩:=Ob hl;have gm:=Mm h1 h2;have lB:B<w.1.size:=Gf _ _ hc;have HX:=zH (fun x w' (hb:vA w.1.size w w')=>zDX x p B w' ((hb.cell (p:=⟨B,0,vD⟩) lB).trans hc))
 clear hl h1 h2 ta hc lB;obtain ⟨ans,ha⟩:=zEX (!(l.all fun x=>decide (x<p)))
 rw [<- ha];have HA:=zH ha;clear ha;go_enter func278,ntmps278
 go_wp2_with fail
 go_loopw [5,8] (fun _ y wr=>∃ i:Nat,i <= l.length /\ y=vd vq i /\ Hid ((l.take i).all (fun x=>decide (x<p))=true) /\ vA w.1.size w wr) (fun _ y _=>l.length-(intOf y).toNat)
 case atStart=>exact ⟨0,Kb _,rfl,rfl,tb _ _⟩
 case round =>
  obtain ⟨i,hi,rfl,HT,yb⟩:=hrel;by_cases ta:i<l.length
  ·have g1:(0:Int)<=i:=by omega
   have g2:(i:Int)<l.length:=by omega
   obtain ⟨b,q,rfl,Gb,hc⟩:=Rg (Ra.below yb) ta;by_cases hx:p <= l.getD i 0
   ·have HF:=zH (show ans=true by rw [HA.out,RY ta hx];rfl)
    have HC:=zH (by have:=HX.out (l.getD i 0) wr yb;rw [xb hx] at this;exact this)
    generalize l.getD i 0=z at *;clear hx HT;go_wp2_with fail
    refine HC.out.mono ?_;rintro e w1 ⟨rfl,Ia⟩;go_wp2;go_ret
    exact ⟨_,rfl,by rw [HF.out];exact xb g1,ma yb Ia⟩
   ·have PB:=zH (SY HT.out ta hx)
    have HC:=zH (by have:=HX.out (l.getD i 0) wr yb;rw [db hx] at this;exact this)
    generalize l.getD i 0=z at *;clear hx HT;go_wp2_with fail
    refine HC.out.mono ?_;rintro e w1 ⟨rfl,Ia⟩;replace yb:=ma yb Ia;clear hc Ia Gb;go_wp2
    go_roundw
    case rel=>exact ⟨i+1,zO,by go_num,PB.out,yb⟩
    case measure=>simp [intOf];omega
  ·obtain rfl:i=l.length:=by omega
   have HF:=zH (show ans=false by rw [HA.out];have:=HT.out;rw [qt] at this;rw [this];rfl)
   go_wp2;go_ret
   exact ⟨_,rfl,by rw [HF.out];rfl,yb⟩
theorem zDn (A:Option vy) (n c p B:Nat) (l:List Nat) (w:vw) (hl:RWd w [ve A n c] l) (hc:w.cell? ⟨B,0,vD⟩=vE (vd vn p)) :
  vB prog 212 #[ve A n c, .func (.func 213) #[] #[.pointer (vE ⟨B,0,vD⟩)]] w fun e w'=>e=vl (.bool (!(l.all fun x=>decide (x<p)))) /\ vA w.1.size w w':=by
 have HI:=zH (zEV A n c p B l w hl hc);clear hl hc;generalize (!(l.all fun x=>decide (x<p)))=ans at *
 go_enter func212,ntmps212
 go_wp2_with fail
 refine HI.out.mono ?_;rintro e w1 ⟨r,rfl,hr,Ia⟩;go_wp2;go_ret
 exact ⟨by first | rfl | (simp [hr]),Ia⟩
theorem IM (A:Option vy) (n c m p:Nat) (l:List Nat) (w:vw) (hl:RWd w [ve A n c] l) :
  vB prog 120 #[ve A n c,vd vq m,vd vn p] w fun e w'=>e=vl (.bool (Rj l m p)) /\ vA w.1.size w w':=by
 obtain ⟨kb,Zk⟩:=zN w 22 #[vd vn p];have HC:=zH (zDn A n c p w.1.size l (w.alloc (.cells #[vd vn p] 22)) (Ab Zk hl) (by rw [kb.cell];rfl))
 obtain ⟨rfl,h1,h2,ta,Ra⟩:=Ob hl;clear hl h1 h2 ta Ra kb;have HE:=zH (show Rj l m p=(decide (l.length=m)&&l.all fun x=>decide (x<p)) from rfl)
 by_cases hm:l.length=m
 ·have HF:=zH (show Rj l m p=l.all fun x=>decide (x<p) by rw [HE.out,xb hm];rfl)
  have t1:((l.length:Int)==m)=true:=by rw [Dh];omega
  rw [HF.out];clear hm HF HE;generalize l.length=n at *;generalize (l.all fun x=>decide (x<p))=v at *
  go_enter func120,ntmps120
  go_wp2_with fail
  refine HC.out.mono ?_;rintro e w1 ⟨rfl,Ia⟩;go_wp2;go_ret
  exact ⟨by cases v <;> rfl,ma Zk Ia⟩
 ·have HF:=zH (show Rj l m p=false by rw [HE.out,db hm];rfl)
  have t1:((l.length:Int)==m)=false:=by rw [Gd];omega
  rw [HF.out];clear hm HF HE HC;generalize l.length=n at *;go_enter func120,ntmps120
  go_wp2_with fail
  go_ret
  exact ⟨rfl,Zk⟩
def Cg (p:Nat) (x y:Int):Prop:=(p:Int)∣x-y
theorem Cg.rfl' {p:Nat} {x:Int}:Cg p x x:=⟨0,zO⟩
theorem Cg.of_eq {p:Nat} {x y:Int} (h:x=y):Cg p x y:=h ▸ Cg.rfl'
theorem Cg.symm {p:Nat} {x y:Int} (h:Cg p x y):Cg p y x:=by
 obtain ⟨c,hc⟩:=h;exact ⟨-c,by rw [Int.mul_neg,<- hc];omega⟩
theorem Cg.trans {p:Nat} {x y z:Int} (h:Cg p x y) (h2:Cg p y z):Cg p x z:=by
 obtain ⟨c,hc⟩:=h;obtain ⟨d,hd⟩:=h2;exact ⟨c+d,by rw [Int.mul_add,<- hc,<- hd];omega⟩
theorem Cg.add {p:Nat} {x y u v:Int} (h:Cg p x y) (h2:Cg p u v):Cg p (x+u) (y+v):=by
 obtain ⟨c,hc⟩:=h;obtain ⟨d,hd⟩:=h2;exact ⟨c+d,by rw [Int.mul_add,<- hc,<- hd];omega⟩
theorem Cg.mul {p:Nat} {x y u v:Int} (h:Cg p x y) (h2:Cg p u v):Cg p (x*u) (y*v):=by
 obtain ⟨c,hc⟩:=h;obtain ⟨d,hd⟩:=h2;refine ⟨c*u+y*d,?_⟩;have e:x*u-y*v=(x-y)*u+y*(u-v):=by rw [Int.sub_mul,Int.mul_sub];omega
 rw [e,hc,hd,Int.mul_add,Xo,<- Xo y,ik y (p:Int),Xo]
theorem Cg.neg {p:Nat} {x y:Int} (h:Cg p x y):Cg p (-x) (-y):=by
 obtain ⟨c,hc⟩:=h;exact ⟨-c,by rw [Int.mul_neg,<- hc];omega⟩
theorem Cg.mod {p:Nat} (x:Nat):Cg p ((x%p:Nat):Int) (x:Int):=by
 refine ⟨-((x / p:Nat):Int),?_⟩;have h:=Eu x p;have h2:((p*(x / p)+x%p:Nat):Int)=(x:Int):=by rw [h]
 rw [um,Qf] at h2;rw [Int.mul_neg];omega
theorem Cg.pow {p:Nat} {x y:Int} (h:Cg p x y) (k:Nat):Cg p (x^k) (y^k):=by
 induction k with
 | zero=>exact Cg.of_eq (by rw [Int.pow_zero,Int.pow_zero])
 | succ k ih=>rw [Jj,Jj];exact ih.mul h
theorem Cg.eq {p a b:Nat} (h:Cg p (a:Int) (b:Int)) (ha:a<p) (hb:b<p):a=b:=by
 obtain ⟨c,hc⟩:=h;rcases Int.lt_trichotomy c 0 with h1 | h1 | h1
 ·have:(p:Int)*c <= (p:Int)*(-1):=Int.mul_le_mul_of_nonneg_left zO zO
  omega
 ·subst h1;omega
 ·have:(p:Int)*1 <= (p:Int)*c:=Int.mul_le_mul_of_nonneg_left zO zO
  omega
def Cb (a:Nat -> Int) (x:Int):Nat -> Int
 | 0=>0
 | n+1=>Cb a x n+a n*x^n
theorem yp {p:Nat} {a b:Nat -> Int} {x y:Int} (h:∀ i,Cg p (a i) (b i)) (hx:Cg p x y):∀ n,Cg p (Cb a x n) (Cb b y n)
 | 0=>Cg.rfl'
 | n+1=>(yp h hx n).add ((h n).mul (hx.pow n))
theorem bU (a:Nat -> Int) (x:Int):∀ n,Cb a x (2*n)=Cb (fun i=>a (2*i)) (x*x) n+x*Cb (fun i=>a (2*i+1)) (x*x) n
 | 0=>by simp [Cb]
 | n+1=>by
  have e:(x*x)^n=x^(2*n):=by rw [Sh];congr 1;rw [Jj,Jj,Int.pow_zero,mo]
  show Cb a x (2*n)+a (2*n)*x^(2*n)+a (2*n+1)*x^(2*n+1)=_
  rw [bU a x n];show _=(Cb (fun i=>a (2*i)) (x*x) n+a (2*n)*(x*x)^n)+x*(Cb (fun i=>a (2*i+1)) (x*x) n+a (2*n+1)*(x*x)^n)
  rw [e,Jj]
  grind
theorem rR (p w:Nat):∀ k,Cg p (Is p w k:Int) ((w:Int)^k)
 | 0=>Cg.rfl'
 | k+1=>by
  show Cg p ((Is p w k*w%p:Nat):Int) _
  refine (Cg.mod _).trans ?_;rw [Qf,Jj];exact (rR p w k).mul Cg.rfl'
theorem ID (p a:Nat) (hp:0<p):Cg p (tg p a:Int) (-(a:Int)):=by
 have h1:Cg p ((a%p:Nat):Int) (a:Int):=Cg.mod a;refine Cg.trans ?_ h1.neg;have h:=mc a hp;unfold tg;split
 ·rename_i h0
  rw [h0];exact Cg.rfl'
 ·exact ⟨1,zO⟩
theorem AP (p:Nat) (hp:0<p):∀ (j:Nat) (a:Nat -> Nat) (w:Nat),(j=0 \/ Cg p ((w:Int)^(2^(j-1))) (-1)) -> ∀ k,k<2^j -> Cg p (tk p j a w k:Int) (Cb (fun i=>(a i:Int)) ((w:Int)^k) (2^j))
 | 0,a,w,_,k,hk=>by
  obtain rfl:k=0:=by omega
  show Cg p (a 0:Int) _
  exact Cg.of_eq (by simp [Cb])
 | j+1,a,w,hw,k,hk=>by
  have Lh:Cg p ((w:Int)^(2^j)) (-1):=by
   rcases hw with h | h
   ·omega
   ·exact h
  have Qw:j=0 \/ Cg p (((w*w%p:Nat):Int)^(2^(j-1))) (-1):=by
   rcases dp j with h | h
   ·exact Or.inl h
   ·refine Or.inr (((Cg.mod (p:=p) (w*w)).pow _).trans ?_)
    have e:((w*w:Nat):Int)^(2^(j-1))=(w:Int)^(2^j):=by
     rw [Qf,show 2^j=2*2^(j-1) by rw [ye,<- Sf];congr 1;omega,Sh]
     congr 1
     rw [Jj,Jj,Int.pow_zero,mo]
    rw [e];exact Lh
  have key:∀ i,i<2^j -> ∀ x:Int,Cg p (x*x) (((w:Int)^i)*((w:Int)^i)) -> Cg p ((tk p j (fun i=>a (2*i)) (w*w%p) i:Int)+x*(tk p j (fun i=>a (2*i+1)) (w*w%p) i:Int)) (Cb (fun i=>(a i:Int)) x (2^(j+1))):=by
   intro i hi x hx;have e0:Cg p (((w*w%p:Nat):Int)^i) (x*x):=by
    refine ((Cg.mod (p:=p) (w*w)).pow _).trans (Cg.trans (Cg.of_eq ?_) hx.symm);rw [Qf,Int.mul_pow]
   have h1:=(AP p hp j (fun i=>a (2*i)) (w*w%p) Qw i hi).trans (yp (fun _=>Cg.rfl') e0 _)
   have h2:=(AP p hp j (fun i=>a (2*i+1)) (w*w%p) Qw i hi).trans (yp (fun _=>Cg.rfl') e0 _)
   rw [show 2^(j+1)=2*2^j by rw [Sf,ye],bU]
   exact h1.add (Cg.rfl'.mul h2)
  rw [tk];simp only [];split
  ·rename_i ta
   refine (Cg.mod _).trans (Cg.trans ?_ (key k ta ((w:Int)^k) Cg.rfl'));rw [um];refine Cg.rfl'.add ((Cg.mod _).trans ?_);rw [Qf];exact (rR p w k).mul Cg.rfl'
  ·rename_i PC
   obtain ⟨i,rfl⟩:∃ i,k=2^j+i:=⟨k-2^j,zO⟩;have hi:i<2^j:=by rw [Sf] at hk;omega
   rw [TB];have ex:Cg p ((w:Int)^(2^j+i)) (-((w:Int)^i)):=by
    rw [Int.pow_add];refine (Lh.mul Cg.rfl').trans (Cg.of_eq zO)
   refine (Cg.mod _).trans (Cg.trans ?_ (key i hi ((w:Int)^(2^j+i)) ?_))
   ·rw [um]
    refine Cg.rfl'.add ((ID p _ hp).trans ?_);refine ((Cg.mod _).neg).trans ?_;rw [Qf];refine (((rR p w i).mul Cg.rfl').neg).trans ?_;rw [<- Int.neg_mul];exact ex.symm.mul Cg.rfl'
   ·refine (ex.mul ex).trans (Cg.of_eq ?_)
    rw [Int.neg_mul_neg]
def mB (p:Nat):Nat -> Nat -> Nat -> Nat
 | 0,_,_=>1
 | f+1,b,e=>if e%2=1 then b*mB p f (b*b%p) (e / 2)%p else mB p f (b*b%p) (e / 2)
theorem iO (p:Nat):∀ (f b e:Nat),e<2^f -> Cg p (mB p f b e:Int) ((b:Int)^e)
 | 0,b,e,h=>by
  obtain rfl:e=0:=by omega
  exact Cg.of_eq (by simp [mB])
 | f+1,b,e,h=>by
  have h2:e / 2<2^f:=by rw [Sf] at h;omega
  have ih:=(iO p f (b*b%p) (e / 2) h2).trans ((Cg.mod (p:=p) (b*b)).pow _);have e1:((b*b:Nat):Int)^(e / 2)=(b:Int)^(2*(e / 2)):=by
   rw [Qf,Sh]
   congr 1
   rw [Jj,Jj,Int.pow_zero,mo]
  rw [e1] at ih;rw [mB];split
  ·rename_i h1
   refine (Cg.mod _).trans ?_;rw [Qf,show (b:Int)^e=(b:Int)*b^(2*(e / 2)) by rw [ik,<- Jj];congr 1;omega]
   exact Cg.rfl'.mul ih
  ·rw [show 2*(e / 2)=e by omega] at ih
   exact ih
theorem zEF {p:Nat} (h:Jb p=true):mB p 64 (Mb p).1 ((p-1) / 2)=p-1 /\ (p-1)%2=0 /\ (p-1) / 2<2^64:=by
 rcases cu h with rfl | rfl | rfl | rfl | rfl | rfl | rfl <;> decide +kernel
theorem zEG {p:Nat} (h:Jb p=true):Cg p (((Mb p).1:Int)^((p-1) / 2)) (-1):=by
 obtain ⟨h1,-,h3⟩:=zEF h;have h4:=iO p 64 (Mb p).1 ((p-1) / 2) h3;rw [h1] at h4;refine h4.symm.trans ⟨1,?_⟩;have:=(Rb h).1;omega
theorem ER {p n j:Nat} (h:Jb p=true) (hn:Tk p n) (hj:n=2^j):j=0 \/ Cg p ((Ee p n:Int)^(2^(j-1))) (-1):=by
 rcases dp j with h0 | h0
 ·exact Or.inl h0
 ·right
  refine ((Cg.mod (p:=p) _).pow _).trans (Cg.trans (Cg.of_eq ?_) (zEG h));rw [jo,<- Sh]
  congr 1
  have e:n=2*2^(j-1):=by rw [hj,ye,<- Sf];congr 1;omega
  have hd:=hn.dvd;have ql:=hn.pos;obtain ⟨q,hq⟩:∃ q,p-1=n*q:=⟨(p-1) / n,by have:=Eu (p-1) n;omega⟩
  rw [hq,Nat.mul_div_cancel_left _ zO,e,Nat.mul_assoc,Nat.mul_div_cancel_left _ zO,ye]
theorem zBC {p:Nat} (h:Jb p=true):mB p 64 2 (p-1)=1 /\ mB p 64 (Mb p).1 (p-1)=1 /\ p-1<2^64:=by
 rcases cu h with rfl | rfl | rfl | rfl | rfl | rfl | rfl <;> decide +kernel
theorem zJv {p:Nat} (h:Jb p=true):Cg p ((2:Int)^(p-1)) 1:=by
 obtain ⟨h1,-,h3⟩:=zBC h;have h4:=iO p 64 2 (p-1) h3;rw [h1] at h4;exact h4.symm
theorem xI {p:Nat} (h:Jb p=true):Cg p (((Mb p).1:Int)^(p-1)) 1:=by
 obtain ⟨-,h1,h3⟩:=zBC h;have h4:=iO p 64 (Mb p).1 (p-1) h3;rw [h1] at h4;exact h4.symm
theorem zFc {p n j:Nat} (h:Jb p=true) (hj:n=2^j):Cg p ((n:Int)*((n^(p-2)%p:Nat):Int)) 1:=by
 have hp:=Rb h;refine (Cg.rfl'.mul (Cg.mod _)).trans ?_;have e:(n:Int)*((n^(p-2):Nat):Int)=((2:Int)^(p-1))^j:=by
  rw [jo,hj,jo,ik,<- Jj,<- Sh,<- Sh,Nat.succ_eq_add_one,show p-2+1=p-1 by omega,ye]
  rfl
 rw [e];refine ((zJv h).pow j).trans (Cg.of_eq ?_);exact Int.one_pow
theorem FR {p n:Nat} (h:Jb p=true) (hn:Tk p n):Cg p ((Ee p n:Int)^n) 1:=by
 refine ((Cg.mod (p:=p) _).pow _).trans (Cg.trans (Cg.of_eq ?_) (xI h));rw [jo,<- Sh]
 congr 1
 have hd:=hn.dvd;have:=Eu (p-1) n;rw [ye];omega
theorem tV {p n:Nat} (h:Jb p=true) (hn:Tk p n):Cg p ((Ee p n:Int)*((Ee p n^(p-2)%p:Nat):Int)) 1:=by
 have hp:=Rb h;refine (Cg.rfl'.mul (Cg.mod _)).trans ?_;have e:(Ee p n:Int)*((Ee p n^(p-2):Nat):Int)=((Ee p n:Int)^n)^((p-1) / n):=by
  have hd:=hn.dvd;have h2:=Eu (p-1) n;rw [jo,ik,<- Jj,<- Sh]
  congr 1
  omega
 rw [e];exact ((FR h hn).pow _).trans (Cg.of_eq Int.one_pow)
theorem WR.bytes {w:vw} {g:Nat} {bd:Nat × Nat} {l:List Nat} {f:Bool} (h:WR w g bd l f):∀ x∈l,x<256:=by
 obtain ⟨A,n,c,p,L,hb,hr,hA,hp,hn,rfl,hL⟩:=h;exact fun x hx=>hL x (List.mem_of_mem_drop hx)
theorem WR.lt {w:vw} {g:Nat} {bd:Nat × Nat} {l:List Nat} {f:Bool} (h:WR w g bd l f):g<w.1.size:=by
 obtain ⟨A,n,c,p,L,hb,_⟩:=h;exact hb.lt
theorem WR.drew {w:vw} {g:Nat} {bd:Nat × Nat} {l:List Nat} {f:Bool} (h:WR w g bd l f):WR w.drew g bd l f:=h
theorem WR.drewN {w:vw} {g:Nat} {bd:Nat × Nat} {l:List Nat} {f:Bool} (h:WR w g bd l f) (k:Nat):WR (w.drewN k) g bd l f:=h
theorem WR.grown {w w':vw} {g:Nat} {bd:Nat × Nat} {l:List Nat} {f:Bool} {row:Option Nat} (h:WR w g bd l f) (hg:w.grownBy w' row) (hr:∀ k,row=vE k -> k≠g /\ (bd.2 <= k \/ k<bd.1)):WR w' g bd l f:=by
 obtain ⟨A,n,c,p,L,hb,Qt,hA,hp,hn,rfl,hL⟩:=h;refine ⟨A,n,c,p,L,hb.grown hg fun e=>(hr g e.symm).1 rfl,Qt.grown hg fun ad e1 e2=>?_,hA,hp,hn,rfl,hL⟩
 have h1:=(hr _ e2.symm).2;have h2:=hA.1 ad e1;omega
theorem WR.below {w w':vw} {g B:Nat} {bd:Nat × Nat} {l:List Nat} {f:Bool} (h:WR w g bd l f) (hb:vA B w w') (hB:w.1.size <= B):WR w' g bd l f :=
 h.grown (row:=vD) ⟨hb.os,hb.tape,hb.output,hb.size,fun k hk _=>hb.block k zO⟩ fun k hk=>by cases hk
theorem WR.fail {w:vw} {g:Nat} {bd:Nat × Nat} {l:List Nat} {f:Bool} (h:WR w g bd l f):WR (w.setCell ⟨g,2,vD⟩ (.bool true)) g bd l true:=by
 obtain ⟨A,n,c,p,L,hb,hr,hA,hp,hn,rfl,hL⟩:=h;exact ⟨A,n,c,p,L,by simpa using hb.set_ 2 (.bool true),hr.set_ (p:=⟨g,2,vD⟩) (fun ad e=>by have:=hA.1 ad e;have:=hA.2;show ad.block≠g;omega) _,hA,hp,hn,rfl,hL⟩
theorem WR.cell2 {w:vw} {g:Nat} {bd:Nat × Nat} {l:List Nat} {f:Bool} (h:WR w g bd l f):w.cell? ⟨g,2,vD⟩=vE (.bool f):=by
 obtain ⟨A,n,c,p,L,hb,_⟩:=h
 simpa using hb.cell 2
theorem WR.free {w:vw} {g:Nat} {bd:Nat × Nat} {l:List Nat} {f:Bool} (h:WR w g bd l f) (i:Nat):w.frozen? ⟨g,i,vD⟩=false:=by
 obtain ⟨A,n,c,p,L,hb,_⟩:=h;exact hb.frozen i
def mi (Bd:Nat) (l:List Nat) (f:Bool):Nat × List Nat × Bool :=
 if (Lk 8 l f).2.1=false \/ Bd<(Lk 8 l f).1 then (0,(Lk 8 l f).2.2.1,true) else ((Lk 8 l f).1,(Lk 8 l f).2.2)
theorem zAw {k:Nat} {l:List Nat} {f:Bool} (hl:∀ x∈l,x<256):(Lk k l f).1<256^k:=by
 unfold Lk;split
 ·exact Nat.pow_pos zO
 ·exact pd (UX _ fun x hx=>hl x (List.mem_of_mem_take hx)) (bn zO (by rw [Br];omega))
theorem zAu (g:Nat) (bd:Nat × Nat) (Bd:Nat) (l:List Nat) (f:Bool) (w:vw) (h:WR w g bd l f) :
  vB prog 193 #[.pointer (vE ⟨g,0,vD⟩),vd vn Bd] w fun e w'=>e=vl (vd vn (mi Bd l f).1) /\ WR w' g bd (mi Bd l f).2.1 (mi Bd l f).2.2 /\ w.grownBy w' (vE g):=by
 have hv:(Lk 8 l f).1<18446744073709551616:=zAw h.bytes;have HD:=zH (zDD g bd 8 l f w h zO);obtain ⟨⟨v,ok,l',f'⟩,hD⟩:∃ x,x=Lk 8 l f:=⟨_,rfl⟩;rw [<- hD] at HD hv;have HU:Hid (mi Bd l f=if ok=false \/ Bd<v then (0,l',true) else (v,l',f')):=by simp only [Hid,mi,<- hD]
 clear hD h;simp only at hv;cases ok with
 | false =>
  have HE:Hid (mi Bd l f=(0,l',true)):=by simp only [Hid,HU.out];simp
  rw [HE.out];go_enter func193,ntmps193
  go_wp2_with fail
  refine HD.out.mono ?_;rintro e w1 ⟨rfl,Lh,og⟩;have c2:=Lh.cell2;have fr:=Lh.free 2;go_wp2;go_ret
  exact ⟨rfl,Lh.fail,mh (p:=⟨g,2,vD⟩) og (.inl rfl) _⟩
 | true =>
  by_cases hm:Bd<v
  ·have HE:Hid (mi Bd l f=(0,l',true)):=by simp only [Hid,HU.out];rw [Ka (.inr hm)]
   rw [HE.out];go_enter func193,ntmps193
   go_wp2_with fail
   refine HD.out.mono ?_;rintro e w1 ⟨rfl,Lh,og⟩;have c2:=Lh.cell2;have fr:=Lh.free 2;go_wp2;go_ret
   exact ⟨rfl,Lh.fail,mh (p:=⟨g,2,vD⟩) og (.inl rfl) _⟩
  ·have HE:Hid (mi Bd l f=(v,l',f')):=by simp only [Hid,HU.out];rw [ya zT]
   rw [HE.out];go_enter func193,ntmps193
   go_wp2_with fail
   refine HD.out.mono ?_;rintro e w1 ⟨rfl,Lh,og⟩;go_wp2;go_ret
   exact ⟨rfl,Lh,og⟩
theorem zDI (g:Nat) (bd:Nat × Nat) (l:List Nat) (f:Bool) (w:vw) (h:WR w g bd l f) :
  vB prog 194 #[.pointer (vE ⟨g,0,vD⟩)] w fun e w'=>e=vl (.bool (!f&&l.isEmpty)) /\ ∃ k,w'=w.drewN k:=by
 obtain ⟨A,n,c,p,L,hb,hr,hA,⟨hp,_⟩,hn,rfl,hL⟩:=h;have h0:=hb.cell 0;have h1:=hb.cell 1;have h2:=hb.cell 2;simp at h0 h1 h2
 have hlen:=hr.len1;rw [DJ] at hlen;have HB:Hid ((L.drop p).isEmpty=decide (p=n)):=by
  show _=_
  rw [Bool.eq_iff_iff,List.isEmpty_iff,List.drop_eq_nil_iff];simp
  omega
 clear hlen hb hr hA hL;cases f with
 | true =>
  go_enter func194,ntmps194
  go_wp2_with fail
  go_quiet (fail)
  go_wp2;go_ret
  exact ⟨zS,_,rfl⟩
 | false =>
  rw [HB.out];by_cases e:p=n
  ·subst e
   go_enter func194,ntmps194
   go_wp2_with fail
   go_quiet (fail)
   go_wp2;go_ret
   exact ⟨zS,_,rfl⟩
  ·have hq:((p:Int)==n)=false:=by simp;omega
   have HQ:=zH e;clear e;go_enter func194,ntmps194
   go_wp2_with fail
   go_quiet (fail)
   go_wp2;go_ret
   exact ⟨by simp [HQ.out],_,rfl⟩
theorem zF8 (A:Option vy) (n c:Nat) (l:List Nat) (w:vw) (hr:Rd w 1 A n (U8 l)) (hn:n <= 10000000) (hl:∀ x∈l,x<256) :
  vB prog 192 #[ve A n c] w fun e w'=>∃ g bd,e=vl (.pointer (vE ⟨g,0,vD⟩)) /\ WR w' g bd l false /\ w.1.size <= g /\ w.1.size <= bd.1 /\ g+1=w'.1.size /\ vA w.1.size w w':=by
 go_enter func192,ntmps192
 go_wp2_with (go_at_call 201;refine (YW A n c 0 (U8 l) w hr (one_U8 _) zO).mono ?_;rintro e w1 ⟨v,rfl,hv,hb⟩;obtain ⟨A1,c1,rfl,Ad,_,Bg,hA1⟩:=Ud hv)
 go_ret
 refine ⟨w1.1.size,(w.1.size,w1.1.size),rfl,⟨A1,n,c1,0,l,Blk.new _ _ _,Bg.alloc _,⟨fun ad e=>hA1 ad e,zR⟩,⟨Kb _,Ad⟩,hn,zS,hl⟩,hb.size,zR,zS,hb.alloc hb.size _⟩
def Gc:Nat -> List Nat -> List Nat
 | 0,_=>[]
 | n+1,l=>Ug (l.take 8) :: Gc n (l.drop 8)
theorem yz:∀ (n:Nat) (l:List Nat),(Gc n l).length=n
 | 0,_=>rfl
 | n+1,l=>by rw [Gc,Jg,yz n]
theorem lK:∀ (n:Nat) (l:List Nat) (i:Nat),i<n -> (Gc n l)[i]?=vE (Ug ((l.drop (8*i)).take 8))
 | 0,_,_,h=>absurd h zO
 | n+1,l,0,_=>by simp [Gc]
 | n+1,l,i+1,h=>by
  rw [Gc,List.getElem?_cons_succ,lK n _ i zO,Mj,show 8+8*i=8*(i+1) by omega]
theorem zBZ (n:Nat) (l:List Nat):Gc (n+1) l=Gc n l++[Ug ((l.drop (8*n)).take 8)]:=by
 apply List.ext_getElem?
 intro i;rcases Nat.lt_trichotomy i n with h | h | h
 ·rw [SB (by rw [yz];exact h),lK _ _ _ zO,lK _ _ _ h]
 ·subst h
  rw [jt (by rw [yz];exact zR),yz,lK _ _ _ zO]
  simp
 ·rw [oo (by rw [yz];omega),oo (by rw [jj,yz];simp;omega)]
theorem zBY (n:Nat) (l:List Nat) (s k:Nat) (h:s+k <= n):((Gc n l).drop s).take k=Gc k (l.drop (8*s)):=by
 apply List.ext_getElem?
 intro i;by_cases hi:i<k
 ·rw [List.getElem?_take_of_lt hi,List.getElem?_drop,lK _ _ _ zO,lK _ _ _ hi,Mj,show 8*s+8*i=8*(s+i) by omega]
 ·rw [oo (by rw [Br,ti,yz];omega),oo (by rw [yz];omega)]
def Ph (Bd:Nat):Nat -> List Nat -> Bool -> List Nat × List Nat × Bool
 | 0,l,f=>([],l,f)
 | k+1,l,f=>((Ph Bd k l f).1++[(mi Bd (Ph Bd k l f).2.1 (Ph Bd k l f).2.2).1],(mi Bd (Ph Bd k l f).2.1 (Ph Bd k l f).2.2).2)
theorem zAz (Bd:Nat) (l:List Nat):(mi Bd l true).2.2=true:=by simp [mi,Lk]
theorem RW (Bd:Nat) (l:List Nat) (h8:8 <= l.length) (hm:Ug (l.take 8) <= Bd):mi Bd l false=(Ug (l.take 8),l.drop 8,false):=by
 have h:¬l.length<8:=by omega
 have h2:¬Bd<Ug (l.take 8):=by omega
 simp [mi,Lk,h,h2]
theorem zAA (Bd:Nat) (l:List Nat) (h8:8 <= l.length) (hm:¬Ug (l.take 8) <= Bd):(mi Bd l false).2.2=true:=by
 have h:¬l.length<8:=by omega
 have h2:Bd<Ug (l.take 8):=by omega
 simp [mi,Lk,h,h2]
theorem QW (Bd:Nat):∀ (k:Nat) (l:List Nat),(Ph Bd k l true).2.2=true
 | 0,_=>rfl
 | k+1,l=>by
  rw [Ph];simp only;rw [QW Bd k l];exact zAz _ _
theorem CR (Bd:Nat):∀ (k:Nat) (l:List Nat),8*k <= l.length -> (∀ x∈Gc k l,x <= Bd) -> Ph Bd k l false=(Gc k l,l.drop (8*k),false)
 | 0,l,_,_=>by simp [Ph,Gc]
 | k+1,l,hl,h=>by
  rw [zBZ] at h |-;have ih:=CR Bd k l zO fun x hx=>h x (by simp [hx])
  rw [Ph,ih];simp only;rw [RW Bd (l.drop (8*k)) (by rw [ti];omega) (h _ zS),Mj,show 8*k+8=8*(k+1) by omega]
theorem zAx (Bd:Nat):∀ (k:Nat) (l:List Nat),8*k <= l.length -> (¬ ∀ x∈Gc k l,x <= Bd) -> (Ph Bd k l false).2.2=true
 | 0,l,_,h=>absurd (fun x hx=>by simp [Gc] at hx) h
 | k+1,l,hl,h=>by
  by_cases hk:∀ x∈Gc k l,x <= Bd
  ·rw [Ph,CR Bd k l zO hk]
   refine zAA _ _ (by rw [ti];omega) fun hv=>h fun x hx=>?_
   rw [zBZ] at hx;rcases jq.1 hx with hx | hx
   ·exact hk x hx
   ·rw [Zo] at hx
    rw [hx];exact hv
  ·rw [Ph]
   simp only;rw [zAx Bd k l zO hk];exact zAz _ _
def Dl (ps:Nat -> Nat × Nat) (l:List Nat) (f:Bool):Nat -> List Nat × Bool
 | 0=>(l,f)
 | i+1=>(Ph ((ps i).2-1) (ps i).1 (Dl ps l f i).1 (Dl ps l f i).2).2
def Yt (ps:Nat -> Nat × Nat) (l:List Nat) (f:Bool) (i:Nat):List Nat:=(Ph ((ps i).2-1) (ps i).1 (Dl ps l f i).1 (Dl ps l f i).2).1
def Se (ps:Nat -> Nat × Nat):Nat -> Nat
 | 0=>0
 | i+1=>Se ps i+(ps i).1
theorem GX (ps:Nat -> Nat × Nat) (m:Nat):∀ i,i <= m -> Se ps i <= Se ps m:=by
 induction m with
 | zero =>
  intro i h;have:i=0:=by omega
  subst this;exact zR
 | succ m ih =>
  intro i h;rcases Wg i (m+1) with h1 | h1
  ·have:=ih i zO;rw [Se];omega
  ·have:i=m+1:=by omega
   subst this;exact zR
theorem zA8 (ps:Nat -> Nat × Nat) (l:List Nat):∀ i,(Dl ps l true i).2=true
 | 0=>rfl
 | i+1=>by
  rw [Dl,zA8 ps l i];exact QW _ _ _
theorem TR (ps:Nat -> Nat × Nat) (l:List Nat) (hp:∀ i,0<(ps i).2):∀ m,8*Se ps m <= l.length -> (∀ i<m,∀ x∈Gc (ps i).1 (l.drop (8*Se ps i)),x<(ps i).2) -> Dl ps l false m=(l.drop (8*Se ps m),false)
 | 0,_,_=>by simp [Dl,Se]
 | m+1,hl,h=>by
  rw [Se] at hl;have ih:=TR ps l hp m zO fun i hi=>h i zO
  rw [Dl,ih,CR _ _ _ (by rw [ti];omega) (fun x hx=>by have:=h m zO x hx;have:=hp m;omega),Mj,Se,Nat.mul_add]
theorem zFA (ps:Nat -> Nat × Nat) (l:List Nat) (hp:∀ i,0<(ps i).2) (m i:Nat) (hi:i<m) (hl:8*Se ps m <= l.length) (h:∀ i<m,∀ x∈Gc (ps i).1 (l.drop (8*Se ps i)),x<(ps i).2) :
  Yt ps l false i=Gc (ps i).1 (l.drop (8*Se ps i)):=by
 have h1:=GX ps m i zO;have h2:=GX ps m (i+1) zO;rw [Se] at h2;rw [Yt,TR ps l hp i zO fun k hk=>h k zO,CR _ _ _ (by rw [ti];omega) (fun x hx=>by have:=h i hi x hx;have:=hp i;omega)]
theorem zA9 (ps:Nat -> Nat × Nat) (l:List Nat) (hp:∀ i,0<(ps i).2):∀ m,8*Se ps m <= l.length -> (¬ ∀ i<m,∀ x∈Gc (ps i).1 (l.drop (8*Se ps i)),x<(ps i).2) -> (Dl ps l false m).2=true
 | 0,_,h=>absurd (fun i hi=>absurd hi zO) h
 | m+1,hl,h=>by
  rw [Se] at hl;by_cases hk:∀ i<m,∀ x∈Gc (ps i).1 (l.drop (8*Se ps i)),x<(ps i).2
  ·rw [Dl,TR ps l hp m zO hk]
   refine zAx _ _ _ (by rw [ti];omega) fun hv=>h fun i hi x hx=>?_
   rcases Wg i m with h1 | h1
   ·exact hk i h1 x hx
   ·have:i=m:=by omega
    subst this;have:=hv x hx;have:=hp i;omega
  ·rw [Dl,zA9 ps l hp m zO hk]
   exact QW _ _ _
theorem zFd {P:Program} {f:FuncId} {fn:Func} {s:ChangeSpec} {c:OpenClaim}
  (k1:(c.wf (OpenSpec.ofChange s))=true)
  (k2:(laidOutB P)=true)
  (k3:(mapsRowed P)=true)
  (k4:(fn.params.all (P.readableRec ·))=true)
  (k5:(namedTie P c.named s.vars)=true)
  (k6:((c.stops == []))=true)
  (k7:((P.stops == []))=true)
  (k8:((c.knobs == []))=true)
  (k9:((P.stopKnobs == []))=true)
  (k10:((c.inPlace == P.inPlace f))=true)
  (k11:((c.unfollowed == P.unfollowed f))=true)
  (k12:((c.recurses == P.recurses f))=true)
  (Ty:((c.named == P.varsNamed f))=true)
  (k14:((c.maps == (fn.params.toList++s.plain.varTypes P).any (P.mapsRec ·)))=true)
  (En:((c.ifaces == (fn.params.toList++s.plain.varTypes P).any (P.ifacesRec ·)))=true)
  (LA:((c.mapsOut == P.mapsAmong fn.resultTypes.toList))=true)
  (k17:((c.loops == (fn.params.toList++s.plain.varTypes P).any (P.loopsFrom ·)))=true)
  (k18:((c.wideKeys == (fn.params.toList++s.plain.varTypes P++fn.resultTypes.toList).any (P.wideKeysFrom ·)))=true)
  (k19:(s.vars.all (P.varReadable ·))=true)
  (k20:(fn.resultTypes.all (fun t=>P.readableRec t&&decide (t<P.types.size)))=true)
  (Gn:((c.ifacesOut == fn.resultTypes.toList.any (P.ifacesRec ·)))=true)
  (k22:((c.loopsOut == fn.resultTypes.toList.any (P.loopsFrom ·)))=true)
  (k23:((c.plainKeys == P.plainKeys))=true)
  (k24:(c.shortTexts.isNone)=true)
  (k25:(P.stopsHeard)=true)
  (Hn:(P.mayEnter)=true)
  (k27:((c.lifted == P.liftsFinal))=true)
  (Pp:((P.make == vE c.make))=true)
  (k29:((c.kinds == (if c.domain.isEmpty then [] else fn.params.toList.map fun t=>match P.underlying t with | some (.int k)=>vE k | _=>vD)))=true)
  (k30:((c.pinned == c.pinnedBy))=true)
  (k31:((c.veiled == (fn.params.toList++s.plain.varTypes P++fn.resultTypes.toList).any (P.veiledRec ·)))=true)
  (k32:(c.veiledFits P fn.params.toList (fn.params.toList++s.plain.varTypes P++fn.resultTypes.toList))=true)
  : joinedFacts P f fn s c=true:=by
 unfold joinedFacts;simp only [Vb];exact ⟨⟨⟨⟨⟨⟨⟨⟨⟨⟨⟨⟨⟨⟨⟨⟨⟨⟨⟨⟨⟨⟨⟨⟨⟨⟨⟨⟨⟨⟨⟨k1,k2⟩,k3⟩,k4⟩,k5⟩,k6⟩,k7⟩,k8⟩,k9⟩,k10⟩,k11⟩,k12⟩,Ty⟩,k14⟩,En⟩,LA⟩,k17⟩,k18⟩,k19⟩,k20⟩,Gn⟩,k22⟩,k23⟩,k24⟩,k25⟩,Hn⟩,k27⟩,Pp⟩,k29⟩,k30⟩,k31⟩,k32⟩
end Go.Proofs.YteoghgbnielkpaaGreat
