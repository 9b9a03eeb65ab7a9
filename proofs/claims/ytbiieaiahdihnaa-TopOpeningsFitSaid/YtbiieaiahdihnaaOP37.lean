/- A part of the proof. No condition. -/
import Derived.Test.YtbiieaiahdihnaaProg
import Derived.Test.YtbiieaiahdihnaaOP36
import Derived.Test.YtbiieaiahdihnaaOP21

namespace Go.Proofs.Ytbiieaiahdihnaa
open Go.RowKit Go.Maps
def Z9 (w:World) (g:Nat) (O:Orc) (F:Nat→Prop) (lab:Nat) (l:List Nat) (e:Ending) (w':World):Prop :=
 e= .returned (.tuple #[.int .u64 (((XT O lab l).getD 0:Nat):Int), .bool (XT O lab l).isSome])∧∃ F',OrcAt w' g (Yt O lab l) F'∧Moved F F' w w'
set_option maxRecDepth 100000 in
set_option maxHeartbeats 400000 in
theorem Kj {w:World} {g B:Nat} {O:Orc} {F:Nat→Prop} (h:OrcAt w g O F) (hi:O.ideal=false) (hB:w.cell? ⟨B,0,none⟩=some (.pointer (some ⟨g,0,none⟩))) (lab:Nat) (l:List Nat) (A:Option Addr) (n c:Nat) {K:Nat→Prop} (hl:KRd K w (.slice A n c) l) (hK:∀ b,K b→¬F b)
  (hlab:lab<18446744073709551616) (hlen:l.length≤1000000) (hne:0<l.length) (hO:ZV O 1000000) :
  Calls Try.prog 31 #[.int .u64 lab, .slice A n c, .pointer (some ⟨B,0,none⟩)] w (Z9 w g O F lab l):=by
 have HH:=Lib.hid (Y6 h lab l A n c hl hK hlab hlen (.inl hne) hO.1 hO.2)
 have e1:XT O lab l=some (ZM O lab l):=by unfold XT;rw [hi];rfl
 have e2:Yt O lab l=ZA O lab l:=by unfold Yt;rw [hi];rfl
 unfold Z9
 rw [e1,e2]
 simp only [Option.getD_some,Option.isSome_some]
 clear h hl hK hlab hlen hne hO e1 e2 hi
 go_enter Try.func31,Try.ntmps31
 go_wp2_with fail
 refine HH.out.mono ?_
 rintro _ w1 ⟨rfl,h1⟩
 have H1:=Lib.hid h1
 clear h1
 go_wp2
 go_ret2
 exact ⟨rfl,H1.out⟩
theorem JW {w:World} {g:Nat} {O:Orc} {F:Nat→Prop} (h:OrcAt w g O F) (hi:O.ideal=true) (lab:Nat) (l:List Nat) (A:Option Addr) (n c:Nat) {K:Nat→Prop} (hl:KRd K w (.slice A n c) l)
  (hlab:lab<18446744073709551616) (hlen:l.length≤1000000) (hO:ZV O 1000000) :
  Calls Try.prog 33 #[.pointer (some ⟨g,0,none⟩), .int .u64 lab, .slice A n c] w (Z9 w g O F lab l):=by
 have e1:XT O lab l=Y7 O lab l:=by unfold XT;rw [hi];rfl
 have e2:Yt O lab l=O:=by unfold Yt;rw [hi];rfl
 refine (yl h lab l A n c (Zq hl) hlab hlen (.inr hi) hO.1).mono fun e w' hh=>?_
 unfold Z9
 rw [e1,e2]
 exact ⟨hh.1,F,h.below hh.2,Zh hh.2⟩
theorem GU:∀ b:Fin 1024,bits .and .i64 (b.val:Int) 1=((b.val%2:Nat):Int):=by decide +kernel
theorem Xv (O:Orc) (lab:Nat) (l:List Nat):(Yt O lab l).ideal=O.ideal:=by
 unfold Yt
 split
 ·rfl
 ·exact XZ O lab l
theorem XG {O:Orc} {k:Nat} (h:ZV O k) (lab:Nat) (l:List Nat):ZV (Yt O lab l) (k+1):=by
 unfold Yt
 split
 ·exact Zs h (Nat.le_succ k)
 ·exact Xt h lab l
theorem GO {O:Orc} (h:XI O) {lab a:Nat} {l:List Nat} (e:XT O lab l=some a):a<Zg:=by
 unfold XT Y7 at e
 split at e
 ·split at e
  ·split at e
   ·rename_i b hb
    injection e with e
    subst e
    unfold ZH at hb
    cases hc:O.qs.find? (qIs lab l) with
    | none=>rw [hc] at hb;cases hb
    | some x =>
     rw [hc] at hb
     injection hb with hb
     rw [←hb]
     exact h x (List.mem_of_find?_eq_some hc)
   ·try (cases e;done)
    all_goals split at e
    all_goals try (cases e;done)
    all_goals (injection e with e;rw [←e];exact Jc lab l)
  ·cases e
 ·injection e with e
  rw [←e]
  exact VD h lab l
theorem VN {p:Nat} {r:List Nat} {O:Orc} {lab i a:Nat} {el:List Nat} (h:XT O lab el=some a) :
  XS (p :: r) O lab el i=XS r (Yt O lab el) 17 (if i%2=1 then [p,a] else [a,p]) (i / 2)∧XN (p :: r) O lab el i=XN r (Yt O lab el) 17 (if i%2=1 then [p,a] else [a,p]) (i / 2):=by
 simp only [XS,XN,h,Option.bind_some,and_self]
theorem Kq {r:List Nat} {O:Orc} {lab i:Nat} {el:List Nat} (h:XT O lab el=none):XS r O lab el i=none∧XN r O lab el i=Yt O lab el:=by
 cases r <;> simp [XS,XN,h]
theorem VS {B:Nat} {w u:World} (hB:B≤w.heap.size) (h:Below w.drew.heap.size w.drew u):Below B w u:=⟨h.os,h.tape,h.output,h.size,fun b hb=>h.block b (by show b<w.heap.size;omega)⟩
theorem Uz {w4 wn:World} {gq:Nat} {x:Value} {o:Obj} {row:Option Nat} (hg:((w4.setCell ⟨gq,2,none⟩ x).alloc o).grownBy wn row):(∀ b,b<w4.heap.size→b≠gq→row≠some b→wn.heap[b]?=w4.heap[b]?)∧w4.heap.size≤wn.heap.size∧wn.os=w4.os∧wn.tape=w4.tape∧wn.output=w4.output:=by
 have hs:((w4.setCell ⟨gq,2,none⟩ x).alloc o).heap.size=w4.heap.size+1:=by simp [World.setCell]
 refine ⟨fun b hb hn hr=>?_,by have:=hg.size;omega,hg.os,hg.tape,hg.output⟩
 exact ((hg.block b (by omega) (fun e=>hr e.symm)).trans (Below.heap_alloc _ o b (by simpa [World.setCell] using hb))).trans (Below.heap_setCell w4 _ x b hn)
theorem VY {F F':Nat→Prop} {w0 w wn:World} (m:Moved F F' w0 w) (h:(∀ b,b<w0.heap.size→wn.heap[b]?=w.heap[b]?)∧w.heap.size≤wn.heap.size∧wn.os=w.os∧wn.tape=w.tape∧wn.output=w.output):Moved F F' w0 wn :=
 ⟨h.2.2.1.trans m.os,h.2.2.2.1.trans m.tape,h.2.2.2.2.trans m.output,Nat.le_trans m.size h.2.1,fun b hb hn=>(h.1 b hb).trans (m.block b hb hn),m.foot⟩
def UF (w:World) (g gx gq:Nat) (F:Nat→Prop) (id:Bool) (i np:Nat) (path:List Nat) (xc:Array Value) (rv:Option Nat) (ro:Orc) (av st:Value) (wr:World):Prop :=
 ∃ (k lab n:Nat) (el:List Nat) (Oc:Orc) (Fc Ke:Nat→Prop) (an:Int) (Ae:Option Addr) (ce:Nat) (cs:List Value),
  (k≤np∧st= .int .i64 (k:Int)∧lab<18446744073709551616∧0<el.length∧el.length≤100001) ∧
  (OrcAt wr g Oc Fc∧Moved F Fc w wr∧Oc.ideal=id∧ZV Oc (300000+k)) ∧
  (Blk wr gq 85 #[.int .u64 (lab:Int), .slice Ae el.length ce, .int .u64 an]∧¬Fc gq) ∧
  (KRd Ke wr (.slice Ae el.length ce) el∧∀ b,Ke b→b<wr.heap.size∧¬Fc b∧b≠gq) ∧
  (Blk wr gx 49 xc∧¬Fc gx) ∧
  (wr.ownsRow (gq+1) 85 3 av n cs∧n≤k∧∀ b,av.ownBlock=some b→¬Fc b∧¬Ke b) ∧
  rv=XS (path.drop k) Oc lab el (i / 2^k)∧ro=XN (path.drop k) Oc lab el (i / 2^k)
theorem VC {w w4 wn w9:World} {g gx gq i np k n:Nat} {F Fd:Nat→Prop} {O':Orc} {id:Bool} {path el':List Nat} {xc:Array Value} {rv:Option Nat} {ro:Orc} {u v':Value} {cs':List Value}
  (H4:OrcAt w4 g O' Fd) (M5:Moved F Fd w w4) (hid:O'.ideal=id) (hO:ZV O' (300000+(k+1)))
  (fm:∀ b,b<w4.heap.size→b≠gq→u.ownBlock≠some b→wn.heap[b]?=w4.heap[b]?) (fs:w4.heap.size≤wn.heap.size∧wn.os=w4.os∧wn.tape=w4.tape∧wn.output=w4.output)
  (nvd:∀ b,u.ownBlock=some b→¬Fd b) (hvq:∀ b,u.ownBlock=some b→gq+1≤b) (nqd:¬Fd gq) (nxd:¬Fd gx) (KX4:Blk w4 gx 49 xc) (hgx:gx<gq) (hw:w.heap.size≤gx)
  (own:wn.ownsRow (gq+1) 85 3 v' (n+1) cs') (hblk:v'.ownBlock=u.ownBlock∨v'.ownBlock=some (w4.heap.size+1)) (hn:n≤k) (hk:k+1≤np)
  (a9:∀ b,b<wn.heap.size→b≠gq→w9.heap[b]?=wn.heap[b]?) (s9:wn.heap.size<w9.heap.size) (o9:w9.os=wn.os∧w9.tape=wn.tape∧w9.output=wn.output)
  (kq9:Blk w9 gq 85 #[.int .u64 17, .slice (some ⟨wn.heap.size,0,none⟩) 2 2, .int .u64 0]) (kp9:Blk w9 wn.heap.size 26 (U64 el').toArray) (hel:el'.length=2) (hel64:∀ x∈el',x<18446744073709551616) (hgq4:gq<w4.heap.size)
  (erv:rv=XS (path.drop (k+1)) O' 17 el' (i / 2^(k+1))) (ero:ro=XN (path.drop (k+1)) O' 17 el' (i / 2^(k+1))) :
  UF w g gx gq F id i np path xc rv ro v' (.int .i64 ((k+1:Nat):Int)) w9:=by
 have ag:∀ b,b<w4.heap.size→b≠gq→u.ownBlock≠some b→w9.heap[b]?=w4.heap[b]?:=fun b h1 h2 h3=>(a9 b (by have:=fs.1;omega) h2).trans (fm b h1 h2 h3)
 have hgx4:=KX4.lt
 have f1:=fs.1
 refine ⟨k+1,17,n+1,el',O',Fd,fun b=>b=wn.heap.size,0,some ⟨wn.heap.size,0,none⟩,2,cs',⟨hk,rfl,by decide,by omega,by omega⟩,⟨?_,?_,hid,hO⟩,⟨by rw [hel];exact kq9,nqd⟩,⟨by rw [hel];exact Yj kp9 hel hel64 (by simp [maxLen]),fun b hb=>?_⟩,⟨?_,nxd⟩,⟨?_,by omega,fun b hb=>?_⟩,erv,ero⟩
 ·exact H4.keep (by omega) fun b hb=>ag b (H4.lt b hb) (fun e=>nqd (by rw [←e];exact hb)) (fun e=>nvd b e hb)
 ·exact VY M5 ⟨fun b hb=>ag b (by have:=M5.size;omega) (by omega) (fun e=>by have:=hvq b e;omega),by omega,o9.1.trans fs.2.1,o9.2.1.trans fs.2.2.1,o9.2.2.trans fs.2.2.2⟩
 ·subst hb
  exact ⟨s9,fun e=>by have:=H4.lt _ e;omega,by omega⟩
 ·exact (ag gx hgx4 (by omega) (fun e=>by have:=hvq gx e;omega)).trans KX4
 ·exact ZE own fun b hb=>a9 b (own.lt b hb).2 (fun e=>by have:=(own.lt b hb).1;omega)
 ·have h2:=(own.lt b hb).2
  refine ⟨fun e=>?_,fun e=>by omega⟩
  rcases hblk with h | h
  ·rw [h] at hb;exact nvd b hb e
  ·rw [h] at hb;have:=Option.some.inj hb;have:=H4.lt b e;omega
set_option maxRecDepth 100000 in
set_option maxHeartbeats 2000000 in
theorem Gn {w:World} {g B:Nat} {O:Orc} {F K:Nat→Prop} (h:OrcAt w g O F) (hid:O.ideal=false) (hB:Blk w B 29 #[.pointer (some ⟨g,0,none⟩)]) (nFB:¬F B) (root i salt:Nat) (A Bp:Option Addr) (a c pb pe:Nat) (leaf path:List Nat) (hl:KRd K w (.slice A a c) leaf) (hp:KRd K w (.slice Bp pb pe) path)
  (hK:∀ b,K b→b<w.heap.size∧¬F b) (hlen:leaf.length≤100000) (hpl:path.length≤10) (hi:i<1024) (hO:ZV O 300000) (hsalt:salt<18446744073709551616) :
  Calls Try.prog 34 #[.func (.func 31) #[] #[.pointer (some ⟨B,0,none⟩)], .int .u64 (root:Int), .int .i64 (i:Int), .agg #[.slice A a c, .int .u64 (salt:Int), .slice Bp pb pe]] w fun e w'=>∃ v F',e= .returned (.tuple #[v, .bool (XS path O 16 (salt :: leaf) i == some root)]) ∧
   OrcAt w' g (XN path O 16 (salt :: leaf) i) F'∧Moved F F' w w':=by
 have hal:=(Below.refl w.heap.size w).alloc (Nat.le_refl _) (.cells #[.slice A a c, .int .u64 (salt:Int), .slice Bp pb pe] 49)
 have kx:=Blk.new w 49 #[.slice A a c, .int .u64 (salt:Int), .slice Bp pb pe]
 have HSA:=Lib.hid (fun w1 (hb:Below w.heap.size w w1)=>Vu salt A a c leaf w1 (Zq (ZF hl hb)) (by omega))
 have H:=Lib.hid h
 have HL:=Lib.hid hl
 have HP:=Lib.hid hp
 have HK:=Lib.hid hK
 have HLEN:=Lib.hid hlen
 have HO:=Lib.hid hO
 have HID:=Lib.hid hid
 obtain ⟨rv,hrv⟩:∃ rv,rv=XS path O 16 (salt :: leaf) i:=⟨_,rfl⟩
 obtain ⟨ro,hro⟩:∃ ro,ro=XN path O 16 (salt :: leaf) i:=⟨_,rfl⟩
 rw [←hrv,←hro]
 have HRV:=Lib.hid hrv
 have HRO:=Lib.hid hro
 have HS64:=Lib.hid hsalt
 have kc:=kx.cell
 have HB:=Lib.hid hB
 have HNB:=Lib.hid nFB
 clear hB nFB
 clear h hl hp hK hlen hO hid hrv hro hsalt
 go_enter Try.func34,Try.ntmps34
 go_wp2_with fail
 generalize w.alloc _=w1 at hal kx kc ⊢
 refine (HSA.out _ hal).mono ?_
 rintro _ w2 ⟨v,rfl,hv,hb2⟩
 obtain ⟨Av,cv,rfl,-⟩:=ZY hv
 go_wp2_with fail
 have hal2:=(Below.refl w2.heap.size w2).alloc (Nat.le_refl _) (.cells #[.int .u64 16, .slice Av (a+1) cv, .int .u64 0] 85)
 have kq:=Blk.new w2 85 #[.int .u64 16, .slice Av (a+1) cv, .int .u64 0]
 have hbw:=Za hal hb2
 have hbw2:=Za hbw hal2
 have l1:w.heap.size<w1.heap.size:=kx.lt
 have l2:=hb2.size
 have hgx:w.heap.size<w2.heap.size:=by omega
 replace kx:=(kx.below hb2 kx.lt).below hal2 hgx
 have hl64:∀ x∈salt :: leaf,x<18446744073709551616:=ZP HS64.out (by obtain ⟨A',c',e',-,-,h9⟩:=Yw HL.out;exact h9)
 have hvl:=fun b hb=>hv.lt b hb
 have hke:=ZF (X6 hv hl64) hal2
 have hpe:=Yw HP.out
 generalize w2.alloc _=w3 at hbw2 kx kq hke ⊢
 generalize hgq:w2.heap.size=gq at kq hgx ⊢
 obtain ⟨gx,hgxe⟩:∃ gx,gx=w.heap.size:=⟨_,rfl⟩
 rw [←hgxe] at kx hgx ⊢
 have HGX:=Lib.hid hgxe
 have hpb:pb=path.length:=by obtain ⟨A',c',e',-⟩:=hpe;injection e' with _ e2 _;
 clear hgxe hal hal2 hb2 kc hv hbw hl64 hpe
 subst hpb
 have HAL:=Lib.hid (show a=leaf.length by obtain ⟨A',c',e',-⟩:=Yw HL.out;injection e' with _ e2 _)
 have hX:∀ b,b<w.heap.size→b≠gq∧b≠gx:=fun b hb=>by have:=HGX.out;omega
 have nFq:∀ b,w.heap.size≤b→¬F b:=fun b hb hf=>by have:=H.out.lt b hf;omega
 have REL:UF w g gx gq F false i path.length path #[.slice A a c, .int .u64 (salt:Int), .slice Bp path.length pe] rv ro (.slice none 0 0) (.int .i64 0) w3:=by
  refine ⟨0,16,0,salt :: leaf,O,F,fun b=>(Value.slice Av (a+1) cv).ownBlock=some b,0,Av,cv,[],⟨Nat.zero_le _,rfl,by decide,by simp,by have:=HLEN.out;simp;omega⟩,⟨H.out.below hbw2,Zh hbw2,HID.out,HO.out⟩,⟨?_,nFq gq (by have:=HGX.out;omega)⟩,⟨?_,fun b hb=>?_⟩,⟨kx,nFq gx (by have:=HGX.out;omega)⟩,⟨⟨rfl, .inl ⟨rfl,rfl⟩⟩,Nat.le_refl _,fun b hb=>by simp [Value.ownBlock] at hb⟩,?_,?_⟩
  ·rw [List.length_cons,←HAL.out];exact kq
  ·rw [List.length_cons,←HAL.out];exact hke
  ·have:=hvl b hb
   have:=kq.lt
   exact ⟨by omega,nFq b (by omega),by omega⟩
  ·rw [HRV.out];simp
  ·rw [HRO.out];simp
 clear hke kq kx hbw2 hvl l1 l2 hgq HRV HRO HO HID
 go_loopw [11,12] (fun av st wr=>UF w g gx gq F false i path.length path #[.slice A a c, .int .u64 (salt:Int), .slice Bp path.length pe] rv ro av st wr) (fun _ st _=>path.length+1-(intOf st).toNat)
 case atStart=>exact REL
 case round =>
  clear REL
  obtain ⟨k,lab,n,el,Oc,Fc,Ke,an,Ae,ce,cs,⟨hk,rfl,hlab,hel0,hel⟩,⟨h1,m1,hid1,hO1⟩,⟨kq,nFcq⟩,⟨hke,hKe⟩,⟨kx,nFcx⟩,⟨own,hnk,hav⟩,erv,ero⟩:=hrel
  have HASK:=Lib.hid (show ∀ e' w',Z9 wr g Oc Fc lab el e' w'→Z9 wr g Oc Fc lab el e' w' from fun _ _ h=>h)
  have CALL:=Lib.hid (show Calls Try.prog 31 #[.int .u64 (lab:Int), .slice Ae el.length ce, .pointer (some ⟨B,0,none⟩)] wr (Z9 wr g Oc Fc lab el) from Kj h1 hid1 ((HB.out.moved m1 HNB.out).cell 0) lab el Ae el.length ce hke (fun b hb=>(hKe b hb).2.1) hlab (by omega) hel0 (Zs hO1 (by omega)))
  have hcq:=kq.cell
  have hfq:=kq.frozen
  have hqx:gx≠gq:=by omega
  have HKe:=Lib.hid hKe
  have HAV:=Lib.hid hav
  have HKE:=Lib.hid hke
  have M1:=Lib.hid m1
  have KQ:=Lib.hid kq
  have KX:=Lib.hid kx
  have OWN:=Lib.hid own
  have HO1:=Lib.hid hO1
  have H1:=Lib.hid h1
  have hnk2:n≤10:=by omega
  have hsz:=kq.lt
  rcases hq:XT Oc lab el with _ | an2
  ·obtain ⟨s1,s2⟩:=Kq (r:=path.drop k) (i:=i / 2^k) hq
   have hrv:rv=none:=by rw [erv,s1]
   have hro:ro=Yt Oc lab el:=by rw [ero,s2]
   have CALL:=Lib.hid (show Calls Try.prog 31 #[.int .u64 (lab:Int), .slice Ae el.length ce, .pointer (some ⟨B,0,none⟩)] wr (fun e w'=>e= .returned (.tuple #[.int .u64 0, .bool false])∧∃ F',OrcAt w' g (Yt Oc lab el) F'∧Moved Fc F' wr w') from by have:=CALL.out;unfold Z9 at this;rw [hq] at this;exact this)
   have HRV:=Lib.hid hrv
   have HRO:=Lib.hid hro
   clear erv ero s1 s2 hq hrv hro hke hKe hav m1 kq kx own hO1 h1
   go_wp2_with fail
   refine CALL.out.mono ?_
   rintro _ w4 ⟨rfl,Fd,h4,m4⟩
   have DONE:=Lib.hid (show OrcAt w4 g ro Fd∧Moved F Fd w w4 from by rw [HRO.out];exact ⟨h4,M1.out.trans m4⟩)
   clear h4 m4
   go_wp2
   go_ret2
   exact ⟨_,Fd,by rw [HRV.out];rfl,DONE.out⟩
  ·have CALL:=Lib.hid (show Calls Try.prog 31 #[.int .u64 (lab:Int), .slice Ae el.length ce, .pointer (some ⟨B,0,none⟩)] wr (fun e w'=>e= .returned (.tuple #[.int .u64 (an2:Int), .bool true])∧∃ F',OrcAt w' g (Yt Oc lab el) F'∧Moved Fc F' wr w') from by have:=CALL.out;unfold Z9 at this;rw [hq] at this;exact this)
   have HQ:=Lib.hid hq
   have HAN:=Lib.hid (GO h1.ok.ans hq)
   have ERV:=Lib.hid erv
   have ERO:=Lib.hid ero
   clear erv ero hq hke hKe hav m1 kq kx own hO1 h1
   by_cases hkn:k=path.length
   ·subst hkn
    have hrv:rv=some an2:=by rw [ERV.out,List.drop_length];exact HQ.out
    have hro:ro=Yt Oc lab el:=by rw [ERO.out,List.drop_length];rfl
    obtain ⟨res,hres⟩:∃ res,res=(rv == some root):=⟨_,rfl⟩
    have dres:((an2:Int) == (root:Int))=res:=by
     rw [hres,hrv]
     by_cases h:an2=root
     ·subst h;simp
     ·have h2:((an2:Int) == (root:Int))=false:=by rw [beq_eq_false_iff_ne];omega
      rw [h2];symm;simpa using h
    have dkk:(((path.length:Nat):Int) == (path.length:Int))=true:=by simp
    have HRES:=Lib.hid hres.symm
    have HRO:=Lib.hid hro
    clear hres hrv hro ERV ERO
    go_wp2_with fail
    refine CALL.out.mono ?_
    rintro _ w4 ⟨rfl,Fd,h4,m4⟩
    have kq4:=KQ.out.moved m4 nFcq
    have own4:=YU OWN.out m4 (fun b hb=>(HAV.out b hb).1)
    have nqd:=Zn m4 hsz nFcq
    have nxd:=Zn m4 KX.out.lt nFcx
    have nvd:∀ b,u11.ownBlock=some b→¬Fd b:=fun b hb=>Zn m4 (OWN.out.lt b hb).2 (HAV.out b hb).1
    have hvq:∀ b,u11.ownBlock=some b→gq+1≤b:=fun b hb=>(own4.lt b hb).1
    have M5:=Lib.hid (M1.out.trans m4)
    have own5:(w4.setCell ⟨gq,2,none⟩ (.int .u64 (an2:Int))).ownsRow (gq+1) 85 3 u11 n cs:=ZE own4 fun b hb=>Below.heap_setCell w4 _ _ b (fun e=>by have:=hvq b hb;simp at e;omega)
    have H4:=Lib.hid h4
    have hc4:=kq4.cell
    have hf4:=kq4.frozen
    have KX4:=Lib.hid (KX.out.moved m4 nFcx)
    have kxc:=KX4.out.cell
    have kset:=kq4.set_ 2 (.int .u64 (an2:Int))
    have hcs:=kset.cell
    have ls4:gq<w4.heap.size:=kq4.lt
    have KQ4:=Lib.hid kq4
    have hss:(w4.setCell ⟨gq,2,none⟩ (.int .u64 (an2:Int))).heap.size=w4.heap.size:=by simp [World.setCell]
    have hrdq:Rd ((w4.setCell ⟨gq,2,none⟩ (.int .u64 (an2:Int))).alloc (.cells #[.int .u64 (lab:Int), .slice Ae el.length ce, .int .u64 (an2:Int)] 85)) 3 (some ⟨w4.heap.size,0,none⟩) 1 [.int .u64 (lab:Int), .slice Ae el.length ce, .int .u64 (an2:Int)]:=by
     have:=yp (w4.setCell ⟨gq,2,none⟩ (.int .u64 (an2:Int))) (.int .u64 (lab:Int)) (.slice Ae el.length ce) (.int .u64 (an2:Int)) 85
     rw [hss] at this
     exact this
    clear h4 m4 kq4 own4 hcq hfq
    go_wp2_with (at_builtin;refine ZJ rfl _ _ rfl yV rfl (own5.alloc _) rfl hrdq (by intro u hu;simp at hu;rcases hu with rfl | rfl | rfl <;> rfl) (by omega) (by simp;omega) ?_)
    intro v' wn hown' hgrow hblk
    obtain ⟨fm,fs⟩:=Uz hgrow
    have DONE:=Lib.hid (show OrcAt wn g ro Fd∧Moved F Fd w wn from by
     rw [HRO.out]
     refine ⟨H4.out.keep fs.1 fun b hb=>fm b (H4.out.lt b hb) (fun e=>nqd (by rw [←e];exact hb)) (fun e=>nvd b e hb),VY M5.out ⟨fun b hb=>fm b (by have:=M5.out.size;omega) (hX b hb).1 (fun e=>by have:=hvq b e;have:=(hX b hb);have:=HGX.out;omega),fs⟩⟩)
    have hcx:∀ j,wn.cell? ⟨gx,j,none⟩=_:=fun j=>(show wn.cell? ⟨gx,j,none⟩=w4.cell? ⟨gx,j,none⟩ by simp only [World.cell?,fm gx KX4.out.lt (by omega) (fun e=>by have:=hvq gx e;omega)]).trans (KX4.out.cell j)
    clear hgrow hblk hown' fm fs kxc hc4 hf4 hcs kset own5
    go_wp2
    go_ret2
    exact ⟨_,Fd,by rw [HRES.out];rfl,DONE.out⟩
   ·have hkl:k<path.length:=by omega
    have hdrop:path.drop k=path.getD k 0 :: path.drop (k+1):=by
     rw [List.drop_eq_getElem_cons hkl,List.getD_eq_getElem?_getD,List.getElem?_eq_getElem hkl];rfl
    have hdv:i / 2^k / 2=i / 2^(k+1):=by rw [Nat.pow_succ,Nat.div_div_eq_div_mul]
    have hrv:=ERV.out
    have hro:=ERO.out
    rw [hdrop] at hrv hro
    rw [(VN HQ.out).1,hdv] at hrv
    rw [(VN HQ.out).2,hdv] at hro
    have dkk:((k:Int) == (path.length:Int))=false:=by rw [beq_eq_false_iff_ne];omega
    have HRV:=Lib.hid hrv
    have HRO:=Lib.hid hro
    have HKL:=Lib.hid hkl
    clear hrv hro ERV ERO hdrop hdv hkn
    go_wp2_with fail
    refine CALL.out.mono ?_
    rintro _ w4 ⟨rfl,Fd,h4,m4⟩
    have kq4:=KQ.out.moved m4 nFcq
    have own4:=YU OWN.out m4 (fun b hb=>(HAV.out b hb).1)
    have nqd:=Zn m4 hsz nFcq
    have nxd:=Zn m4 KX.out.lt nFcx
    have nvd:∀ b,u11.ownBlock=some b→¬Fd b:=fun b hb=>Zn m4 (OWN.out.lt b hb).2 (HAV.out b hb).1
    have hvq:∀ b,u11.ownBlock=some b→gq+1≤b:=fun b hb=>(own4.lt b hb).1
    have M5:=Lib.hid (M1.out.trans m4)
    have own5:(w4.setCell ⟨gq,2,none⟩ (.int .u64 (an2:Int))).ownsRow (gq+1) 85 3 u11 n cs:=ZE own4 fun b hb=>Below.heap_setCell w4 _ _ b (fun e=>by have:=hvq b hb;simp at e;omega)
    have H4:=Lib.hid h4
    have hc4:=kq4.cell
    have hf4:=kq4.frozen
    have KX4:=Lib.hid (KX.out.moved m4 nFcx)
    have kxc:=KX4.out.cell
    have kset:=kq4.set_ 2 (.int .u64 (an2:Int))
    have hcs:=kset.cell
    have ls4:gq<w4.heap.size:=kq4.lt
    have KQ4:=Lib.hid kq4
    have hss:(w4.setCell ⟨gq,2,none⟩ (.int .u64 (an2:Int))).heap.size=w4.heap.size:=by simp [World.setCell]
    have hrdq:Rd ((w4.setCell ⟨gq,2,none⟩ (.int .u64 (an2:Int))).alloc (.cells #[.int .u64 (lab:Int), .slice Ae el.length ce, .int .u64 (an2:Int)] 85)) 3 (some ⟨w4.heap.size,0,none⟩) 1 [.int .u64 (lab:Int), .slice Ae el.length ce, .int .u64 (an2:Int)]:=by
     have:=yp (w4.setCell ⟨gq,2,none⟩ (.int .u64 (an2:Int))) (.int .u64 (lab:Int)) (.slice Ae el.length ce) (.int .u64 (an2:Int)) 85
     rw [hss] at this
     exact this
    clear h4 m4 kq4 own4 hcq hfq
    go_wp2_with (at_builtin;refine ZJ rfl _ _ rfl yV rfl (own5.alloc _) rfl hrdq (by intro u hu;simp at hu;rcases hu with rfl | rfl | rfl <;> rfl) (by omega) (by simp;omega) ?_)
    intro v' wn hown' hgrow hblk
    obtain ⟨fm,fs⟩:=Uz hgrow
    have hcx:∀ j,wn.cell? ⟨gx,j,none⟩=_:=fun j=>(show wn.cell? ⟨gx,j,none⟩=w4.cell? ⟨gx,j,none⟩ by simp only [World.cell?,fm gx KX4.out.lt (by omega) (fun e=>by have:=hvq gx e;omega)]).trans (KX4.out.cell j)
    have hKw:∀ b,K b→b<w.heap.size→wn.heap[b]?=w.heap[b]?:=fun b hb hl=>(fm b (by have:=M5.out.size;omega) (hX b hl).1 (fun e=>by have:=hvq b e;have:=HGX.out;omega)).trans (M5.out.block b hl (HK.out b hb).2)
    have krp:=Ya HP.out (Nat.le_trans M5.out.size fs.1) hKw
    obtain ⟨b3,q3,eP,hb3,hcp⟩:=ZN (ZO (Zq krp)).2.2.2.2 HKL.out
    have hpx:=Xb (ZO (Zq krp)).2.2.2.1 HKL.out
    subst eP
    have HPX:=Lib.hid hpx
    have FM:=Lib.hid fm
    have FS:=Lib.hid fs
    have OWNn:=Lib.hid hown'
    have HBLK:=Lib.hid hblk
    have GROW:=Lib.hid hgrow
    have kqn:=(kset.alloc (.cells #[.int .u64 (lab:Int), .slice Ae el.length ce, .int .u64 (an2:Int)] 85)).grown hgrow (fun e=>by have:=hvq gq e.symm;omega)
    have hkI:(k:Int)≤10:=by omega
    have hkl2:(k:Int)<(path.length:Int):=by have:=HKL.out;omega
    have hk0:(0:Int)≤(k:Int):=by omega
    obtain ⟨px,hpx⟩:∃ px,px=path.getD k 0:=⟨_,rfl⟩
    rw [←hpx] at hcp HPX HRV HRO
    clear hgrow hblk hown' fm fs kxc hc4 hf4 hcs kset own5 hrdq hKw krp hpx
    have KQN:=Lib.hid kqn
    have lqn:=kqn.lt
    have hpair:=Blk.new wn 26 #[.int .u64 (an2:Int), .int .u64 (px:Int)]
    have halp:=(Below.refl wn.heap.size wn).alloc (Nat.le_refl _) (.cells #[.int .u64 (an2:Int), .int .u64 (px:Int)] 26)
    have kqp:=kqn.below halp kqn.lt
    have H64:=Lib.hid (show an2<18446744073709551616 by have:=HAN.out;unfold Zg at this;omega)
    have hjl:i / 2^k<1024:=Nat.lt_of_le_of_lt (Nat.div_le_self _ _) hi
    have hbt:=GU ⟨i / 2^k,hjl⟩
    simp only at hbt
    rw [show ((i / 2^k:Nat):Int)=(i:Int) / 2^k by simp] at hbt
    have hss2:wn.heap.size<(wn.alloc (.cells #[.int .u64 (an2:Int), .int .u64 (px:Int)] 26)).heap.size:=by simp
    clear kqn hjl
    by_cases hodd:i / 2^k%2=1
    ·rw [hodd] at hbt
     have dd:((1:Int) == 1)=true:=rfl
     have REL2:=Lib.hid (fun w9 a9 s9 o9 kq9 kp9=>VC (w9:=w9) (el':=[px,an2]) (O':=Yt Oc lab el) (rv:=rv) (ro:=ro) (path:=path) (i:=i) (np:=path.length) (id:=false) H4.out M5.out (by rw [Xv];exact hid1) (Zs (XG HO1.out lab el) (by omega)) FM.out FS.out nvd hvq nqd nxd KX4.out hgx (by have:=HGX.out;omega) OWNn.out (HBLK.out.imp id fun h=>h.trans (by first | rfl | (simp [World.setCell];done))) hnk (by have:=HKL.out;omega) a9 s9 o9 kq9 kp9 rfl (ZP HPX.out (ZP H64.out fun _ h=>nomatch h)) ls4 (by have:=HRV.out;rw [if_pos hodd] at this;exact this) (by have:=HRO.out;rw [if_pos hodd] at this;exact this))
     clear hodd
     go_upto_region 14 with fail
     generalize hwp:wn.alloc _=wp at kqp hpair halp hss2 ⊢
     obtain ⟨gp,hgp⟩:∃ gp,gp=wn.heap.size:=⟨_,rfl⟩
     have HGP:=Lib.hid hgp
     rw [←hgp] at hpair ⊢
     have lgp:gq<gp:=by rw [hgp];exact lqn
     have hcp2:=hpair.cell
     have lpp:=hpair.lt
     have KQP:=Lib.hid kqp
     have HALP:=Lib.hid halp
     have HSS2:=Lib.hid hss2
     clear kqp halp hwp hgp hss2
     refine V8 (ZQ) [9,11] [9] [1,5,6] [0,1,2,3,4,5,6,7,8,9,10,11] (by kernel_rfl) (by kernel_rfl) ?_
     refine JL (later_moves) ?_
     intro Wc hacc
     repeat (first | (refine Xl (later_moves) rfl rfl rfl (fun _ _ _ h=>h) ?_;simp only [Act.put,zLa,zLb,zLc]) | (refine YV (v:=?_) (later_moves) rfl rfl rfl rfl (fun _ _ _ h=>h) ?_ ?_;rotate_left;(· (intro w' hR;(first | have hcells:=Zc ((later_moves).trans _ _ _ hacc (hR rfl)) | skip);clear hR;go_simp;try with_reducible rfl));simp only [Act.put,zLa,zLb,zLc]) | (refine Xe (v:=?_) (later_moves) rfl rfl rfl (fun _ _ _ h=>h) ?_ ?_;rotate_left;(· (intro w';go_simp;try with_reducible rfl));simp only [Act.put,zLa,zLb,zLc]))
     refine YT (later_moves) rfl rfl rfl ?_
     replace hpair:=hpair.drew.below hacc hpair.lt
     have KQP2:=Lib.hid (KQP.out.drew.below hacc KQP.out.lt)
     have hcp3:=hpair.cell
     have hfp3:=hpair.frozen
     have HACC:=Lib.hid hacc
     clear hcp2 hacc lpp
     go_simp
     refine ⟨fun h=>Bool.noConfusion h,?_⟩
     have hset0:=hpair.set_ 0 (.int .u64 (px:Int))
     have hsn:Below wn.heap.size wn (Wc.setCell ⟨gp,0,none⟩ (.int .u64 (px:Int))):=(HALP.out.trans (VS (Nat.le_of_lt HSS2.out) HACC.out)).setCell (by rw [HGP.out];exact Nat.le_refl _) _
     have hkq1:Blk (Wc.setCell ⟨gp,0,none⟩ (.int .u64 (px:Int))) gq 85 _:=KQP2.out.far (p:=⟨gp,0,none⟩) (by simp;omega) _
     try simp only [Act.put,zLa,zLb,zLc]
     generalize Wc.setCell _ _=w6 at hset0 hsn hkq1 ⊢
     have hc0:=hset0.cell
     have hf0:=hset0.frozen
     clear hpair hcp3 hfp3 KQP2
     have hacc:=later_moves.refl w6
     repeat (first | (refine Xl (later_moves) rfl rfl rfl (fun _ _ _ h=>h) ?_;simp only [Act.put,zLa,zLb,zLc]) | (refine YV (v:=?_) (later_moves) rfl rfl rfl rfl (fun _ _ _ h=>h) ?_ ?_;rotate_left;(· (intro w' hR;(first | have hcells:=Zc ((later_moves).trans _ _ _ hacc (hR rfl)) | skip);clear hR;go_simp;try with_reducible rfl));simp only [Act.put,zLa,zLb,zLc]) | (refine Xe (v:=?_) (later_moves) rfl rfl rfl (fun _ _ _ h=>h) ?_ ?_;rotate_left;(· (intro w';go_simp;try with_reducible rfl));simp only [Act.put,zLa,zLb,zLc]))
     refine YT (later_moves) rfl rfl rfl ?_
     go_simp
     refine ⟨fun h=>Bool.noConfusion h,?_⟩
     have hset1:=hset0.set_ 1 (.int .u64 (an2:Int))
     have hsn1:Below wn.heap.size wn (w6.setCell ⟨gp,1,none⟩ (.int .u64 (an2:Int))):=hsn.setCell (by rw [HGP.out];exact Nat.le_refl _) _
     have hkq2:Blk (w6.setCell ⟨gp,1,none⟩ (.int .u64 (an2:Int))) gq 85 _:=hkq1.far (p:=⟨gp,1,none⟩) (by simp;omega) _
     try simp only [Act.put,zLa,zLb,zLc]
     generalize w6.setCell _ _=wp2 at hset1 hsn1 hkq2 ⊢
     refine U0 ?_
     have HPAIR:Hid (Blk wp2 wn.heap.size 26 (U64 [px,an2]).toArray):=by
      show Blk _ _ _ _
      rw [←HGP.out]
      simpa [U64] using hset1
     have hcp4:=hkq2.cell
     have hfp4:=hkq2.frozen
     have KQP:=Lib.hid hkq2
     have HALP2:=Lib.hid hsn1
     have HSS2:=Lib.hid (show wn.heap.size<wp2.heap.size by rw [←HGP.out];exact hset1.lt)
     clear hset0 hset1 hsn hsn1 hkq1 hkq2 hc0 hf0 hacc HALP
     go_wp2_with fail
     rw [HGP.out]
     have hse:∀ (x0 x1 x2:Value) b,b≠gq→(((wp2.setCell ⟨gq,0,none⟩ x0).setCell ⟨gq,1,none⟩ x1).setCell ⟨gq,2,none⟩ x2).heap[b]?=wp2.heap[b]?:=fun x0 x1 x2 b hb=>(Below.heap_setCell _ ⟨gq,2,none⟩ x2 b hb).trans ((Below.heap_setCell _ ⟨gq,1,none⟩ x1 b hb).trans (Below.heap_setCell wp2 ⟨gq,0,none⟩ x0 b hb))
     have hfin:=REL2.out (((wp2.setCell ⟨gq,0,none⟩ (.int .u64 17)).setCell ⟨gq,1,none⟩ (.slice (some ⟨wn.heap.size,0,none⟩) 2 2)).setCell ⟨gq,2,none⟩ (.int .u64 0)) (fun b hb hn=>(hse _ _ _ b hn).trans (HALP2.out.block b hb)) (by simpa [World.setCell] using HSS2.out) ⟨HALP2.out.os,HALP2.out.tape,HALP2.out.output⟩ (by have:=((KQP.out.set_ 0 (.int .u64 17)).set_ 1 (.slice (some ⟨wn.heap.size,0,none⟩) 2 2)).set_ 2 (.int .u64 0);simpa using this) ((hse _ _ _ _ (by omega)).trans HPAIR.out)
     refine ⟨by rw [show (k:Int)+1=((k+1:Nat):Int) by simp];exact hfin,by have:=HKL.out;simp [intOf];omega⟩
    ·have h0:i / 2^k%2=0:=by omega
     rw [h0] at hbt
     have dd:(((0:Nat):Int) == 1)=false:=rfl
     have REL2:=Lib.hid (fun w9 a9 s9 o9 kq9 kp9=>VC (w9:=w9) (el':=[an2,px]) (O':=Yt Oc lab el) (rv:=rv) (ro:=ro) (path:=path) (i:=i) (np:=path.length) (id:=false) H4.out M5.out (by rw [Xv];exact hid1) (Zs (XG HO1.out lab el) (by omega)) FM.out FS.out nvd hvq nqd nxd KX4.out hgx (by have:=HGX.out;omega) OWNn.out (HBLK.out.imp id fun h=>h.trans (by first | rfl | (simp [World.setCell];done))) hnk (by have:=HKL.out;omega) a9 s9 o9 kq9 kp9 rfl (ZP H64.out (ZP HPX.out fun _ h=>nomatch h)) ls4 (by have:=HRV.out;rw [if_neg hodd] at this;exact this) (by have:=HRO.out;rw [if_neg hodd] at this;exact this))
     clear hodd h0
     go_upto_region 15 with fail
     generalize hwp:wn.alloc _=wp at kqp hpair halp hss2 ⊢
     have hcp2:=kqp.cell
     have hfp2:=kqp.frozen
     have HPAIR:=Lib.hid hpair
     have KQP:=Lib.hid kqp
     have HALP:=Lib.hid halp
     have HSS2:=Lib.hid hss2
     clear hpair kqp halp hwp
     go_wp2_with fail
     have hse:∀ (x0 x1 x2:Value) b,b≠gq→(((wp.setCell ⟨gq,0,none⟩ x0).setCell ⟨gq,1,none⟩ x1).setCell ⟨gq,2,none⟩ x2).heap[b]?=wp.heap[b]?:=fun x0 x1 x2 b hb=>(Below.heap_setCell _ ⟨gq,2,none⟩ x2 b hb).trans ((Below.heap_setCell _ ⟨gq,1,none⟩ x1 b hb).trans (Below.heap_setCell wp ⟨gq,0,none⟩ x0 b hb))
     have hfin:=REL2.out (((wp.setCell ⟨gq,0,none⟩ (.int .u64 17)).setCell ⟨gq,1,none⟩ (.slice (some ⟨wn.heap.size,0,none⟩) 2 2)).setCell ⟨gq,2,none⟩ (.int .u64 0)) (fun b hb hn=>(hse _ _ _ b hn).trans (HALP.out.block b hb)) (by simpa [World.setCell] using HSS2.out) ⟨HALP.out.os,HALP.out.tape,HALP.out.output⟩ (by have:=((KQP.out.set_ 0 (.int .u64 17)).set_ 1 (.slice (some ⟨wn.heap.size,0,none⟩) 2 2)).set_ 2 (.int .u64 0);simpa using this) ((hse _ _ _ _ (by omega)).trans HPAIR.out)
     refine ⟨by rw [show (k:Int)+1=((k+1:Nat):Int) by simp];exact hfin,by have:=HKL.out;simp [intOf];omega⟩
set_option maxRecDepth 100000 in
set_option maxHeartbeats 2000000 in
theorem KU {w:World} {g:Nat} {O:Orc} {F K:Nat→Prop} (h:OrcAt w g O F) (hid:O.ideal=true) (root i salt:Nat) (A Bp:Option Addr) (a c pb pe:Nat) (leaf path:List Nat) (hl:KRd K w (.slice A a c) leaf) (hp:KRd K w (.slice Bp pb pe) path)
  (hK:∀ b,K b→b<w.heap.size∧¬F b) (hlen:leaf.length≤100000) (hpl:path.length≤10) (hi:i<1024) (hO:ZV O 300000) (hsalt:salt<18446744073709551616) :
  Calls Try.prog 34 #[.func (.func 33) #[.pointer (some ⟨g,0,none⟩)] #[], .int .u64 (root:Int), .int .i64 (i:Int), .agg #[.slice A a c, .int .u64 (salt:Int), .slice Bp pb pe]] w fun e w'=>∃ v F',e= .returned (.tuple #[v, .bool (XS path O 16 (salt :: leaf) i == some root)]) ∧
   OrcAt w' g (XN path O 16 (salt :: leaf) i) F'∧Moved F F' w w':=by
 have hal:=(Below.refl w.heap.size w).alloc (Nat.le_refl _) (.cells #[.slice A a c, .int .u64 (salt:Int), .slice Bp pb pe] 49)
 have kx:=Blk.new w 49 #[.slice A a c, .int .u64 (salt:Int), .slice Bp pb pe]
 have HSA:=Lib.hid (fun w1 (hb:Below w.heap.size w w1)=>Vu salt A a c leaf w1 (Zq (ZF hl hb)) (by omega))
 have H:=Lib.hid h
 have HL:=Lib.hid hl
 have HP:=Lib.hid hp
 have HK:=Lib.hid hK
 have HLEN:=Lib.hid hlen
 have HO:=Lib.hid hO
 have HID:=Lib.hid hid
 obtain ⟨rv,hrv⟩:∃ rv,rv=XS path O 16 (salt :: leaf) i:=⟨_,rfl⟩
 obtain ⟨ro,hro⟩:∃ ro,ro=XN path O 16 (salt :: leaf) i:=⟨_,rfl⟩
 rw [←hrv,←hro]
 have HRV:=Lib.hid hrv
 have HRO:=Lib.hid hro
 have HS64:=Lib.hid hsalt
 have kc:=kx.cell
 clear h hl hp hK hlen hO hid hrv hro hsalt
 go_enter Try.func34,Try.ntmps34
 go_wp2_with fail
 generalize w.alloc _=w1 at hal kx kc ⊢
 refine (HSA.out _ hal).mono ?_
 rintro _ w2 ⟨v,rfl,hv,hb2⟩
 obtain ⟨Av,cv,rfl,-⟩:=ZY hv
 go_wp2_with fail
 have hal2:=(Below.refl w2.heap.size w2).alloc (Nat.le_refl _) (.cells #[.int .u64 16, .slice Av (a+1) cv, .int .u64 0] 85)
 have kq:=Blk.new w2 85 #[.int .u64 16, .slice Av (a+1) cv, .int .u64 0]
 have hbw:=Za hal hb2
 have hbw2:=Za hbw hal2
 have l1:w.heap.size<w1.heap.size:=kx.lt
 have l2:=hb2.size
 have hgx:w.heap.size<w2.heap.size:=by omega
 replace kx:=(kx.below hb2 kx.lt).below hal2 hgx
 have hl64:∀ x∈salt :: leaf,x<18446744073709551616:=ZP HS64.out (by obtain ⟨A',c',e',-,-,h9⟩:=Yw HL.out;exact h9)
 have hvl:=fun b hb=>hv.lt b hb
 have hke:=ZF (X6 hv hl64) hal2
 have hpe:=Yw HP.out
 generalize w2.alloc _=w3 at hbw2 kx kq hke ⊢
 generalize hgq:w2.heap.size=gq at kq hgx ⊢
 obtain ⟨gx,hgxe⟩:∃ gx,gx=w.heap.size:=⟨_,rfl⟩
 rw [←hgxe] at kx hgx ⊢
 have HGX:=Lib.hid hgxe
 have hpb:pb=path.length:=by obtain ⟨A',c',e',-⟩:=hpe;injection e' with _ e2 _;
 clear hgxe hal hal2 hb2 kc hv hbw hl64 hpe
 subst hpb
 have HAL:=Lib.hid (show a=leaf.length by obtain ⟨A',c',e',-⟩:=Yw HL.out;injection e' with _ e2 _)
 have hX:∀ b,b<w.heap.size→b≠gq∧b≠gx:=fun b hb=>by have:=HGX.out;omega
 have nFq:∀ b,w.heap.size≤b→¬F b:=fun b hb hf=>by have:=H.out.lt b hf;omega
 have REL:UF w g gx gq F true i path.length path #[.slice A a c, .int .u64 (salt:Int), .slice Bp path.length pe] rv ro (.slice none 0 0) (.int .i64 0) w3:=by
  refine ⟨0,16,0,salt :: leaf,O,F,fun b=>(Value.slice Av (a+1) cv).ownBlock=some b,0,Av,cv,[],⟨Nat.zero_le _,rfl,by decide,by simp,by have:=HLEN.out;simp;omega⟩,⟨H.out.below hbw2,Zh hbw2,HID.out,HO.out⟩,⟨?_,nFq gq (by have:=HGX.out;omega)⟩,⟨?_,fun b hb=>?_⟩,⟨kx,nFq gx (by have:=HGX.out;omega)⟩,⟨⟨rfl, .inl ⟨rfl,rfl⟩⟩,Nat.le_refl _,fun b hb=>by simp [Value.ownBlock] at hb⟩,?_,?_⟩
  ·rw [List.length_cons,←HAL.out];exact kq
  ·rw [List.length_cons,←HAL.out];exact hke
  ·have:=hvl b hb
   have:=kq.lt
   exact ⟨by omega,nFq b (by omega),by omega⟩
  ·rw [HRV.out];simp
  ·rw [HRO.out];simp
 clear hke kq kx hbw2 hvl l1 l2 hgq HRV HRO HO HID
 go_loopw [11,12] (fun av st wr=>UF w g gx gq F true i path.length path #[.slice A a c, .int .u64 (salt:Int), .slice Bp path.length pe] rv ro av st wr) (fun _ st _=>path.length+1-(intOf st).toNat)
 case atStart=>exact REL
 case round =>
  clear REL
  obtain ⟨k,lab,n,el,Oc,Fc,Ke,an,Ae,ce,cs,⟨hk,rfl,hlab,hel0,hel⟩,⟨h1,m1,hid1,hO1⟩,⟨kq,nFcq⟩,⟨hke,hKe⟩,⟨kx,nFcx⟩,⟨own,hnk,hav⟩,erv,ero⟩:=hrel
  have HASK:=Lib.hid (show ∀ e' w',Z9 wr g Oc Fc lab el e' w'→Z9 wr g Oc Fc lab el e' w' from fun _ _ h=>h)
  have CALL:=Lib.hid (show Calls Try.prog 33 #[.pointer (some ⟨g,0,none⟩), .int .u64 (lab:Int), .slice Ae el.length ce] wr (Z9 wr g Oc Fc lab el) from JW h1 hid1 lab el Ae el.length ce hke hlab (by omega) (Zs hO1 (by omega)))
  have hcq:=kq.cell
  have hfq:=kq.frozen
  have hqx:gx≠gq:=by omega
  have HKe:=Lib.hid hKe
  have HAV:=Lib.hid hav
  have HKE:=Lib.hid hke
  have M1:=Lib.hid m1
  have KQ:=Lib.hid kq
  have KX:=Lib.hid kx
  have OWN:=Lib.hid own
  have HO1:=Lib.hid hO1
  have H1:=Lib.hid h1
  have hnk2:n≤10:=by omega
  have hsz:=kq.lt
  rcases hq:XT Oc lab el with _ | an2
  ·obtain ⟨s1,s2⟩:=Kq (r:=path.drop k) (i:=i / 2^k) hq
   have hrv:rv=none:=by rw [erv,s1]
   have hro:ro=Yt Oc lab el:=by rw [ero,s2]
   have CALL:=Lib.hid (show Calls Try.prog 33 #[.pointer (some ⟨g,0,none⟩), .int .u64 (lab:Int), .slice Ae el.length ce] wr (fun e w'=>e= .returned (.tuple #[.int .u64 0, .bool false])∧∃ F',OrcAt w' g (Yt Oc lab el) F'∧Moved Fc F' wr w') from by have:=CALL.out;unfold Z9 at this;rw [hq] at this;exact this)
   have HRV:=Lib.hid hrv
   have HRO:=Lib.hid hro
   clear erv ero s1 s2 hq hrv hro hke hKe hav m1 kq kx own hO1 h1
   go_wp2_with fail
   refine CALL.out.mono ?_
   rintro _ w4 ⟨rfl,Fd,h4,m4⟩
   have DONE:=Lib.hid (show OrcAt w4 g ro Fd∧Moved F Fd w w4 from by rw [HRO.out];exact ⟨h4,M1.out.trans m4⟩)
   clear h4 m4
   go_wp2
   go_ret2
   exact ⟨_,Fd,by rw [HRV.out];rfl,DONE.out⟩
  ·have CALL:=Lib.hid (show Calls Try.prog 33 #[.pointer (some ⟨g,0,none⟩), .int .u64 (lab:Int), .slice Ae el.length ce] wr (fun e w'=>e= .returned (.tuple #[.int .u64 (an2:Int), .bool true])∧∃ F',OrcAt w' g (Yt Oc lab el) F'∧Moved Fc F' wr w') from by have:=CALL.out;unfold Z9 at this;rw [hq] at this;exact this)
   have HQ:=Lib.hid hq
   have HAN:=Lib.hid (GO h1.ok.ans hq)
   have ERV:=Lib.hid erv
   have ERO:=Lib.hid ero
   clear erv ero hq hke hKe hav m1 kq kx own hO1 h1
   by_cases hkn:k=path.length
   ·subst hkn
    have hrv:rv=some an2:=by rw [ERV.out,List.drop_length];exact HQ.out
    have hro:ro=Yt Oc lab el:=by rw [ERO.out,List.drop_length];rfl
    obtain ⟨res,hres⟩:∃ res,res=(rv == some root):=⟨_,rfl⟩
    have dres:((an2:Int) == (root:Int))=res:=by
     rw [hres,hrv]
     by_cases h:an2=root
     ·subst h;simp
     ·have h2:((an2:Int) == (root:Int))=false:=by rw [beq_eq_false_iff_ne];omega
      rw [h2];symm;simpa using h
    have dkk:(((path.length:Nat):Int) == (path.length:Int))=true:=by simp
    have HRES:=Lib.hid hres.symm
    have HRO:=Lib.hid hro
    clear hres hrv hro ERV ERO
    go_wp2_with fail
    refine CALL.out.mono ?_
    rintro _ w4 ⟨rfl,Fd,h4,m4⟩
    have kq4:=KQ.out.moved m4 nFcq
    have own4:=YU OWN.out m4 (fun b hb=>(HAV.out b hb).1)
    have nqd:=Zn m4 hsz nFcq
    have nxd:=Zn m4 KX.out.lt nFcx
    have nvd:∀ b,u11.ownBlock=some b→¬Fd b:=fun b hb=>Zn m4 (OWN.out.lt b hb).2 (HAV.out b hb).1
    have hvq:∀ b,u11.ownBlock=some b→gq+1≤b:=fun b hb=>(own4.lt b hb).1
    have M5:=Lib.hid (M1.out.trans m4)
    have own5:(w4.setCell ⟨gq,2,none⟩ (.int .u64 (an2:Int))).ownsRow (gq+1) 85 3 u11 n cs:=ZE own4 fun b hb=>Below.heap_setCell w4 _ _ b (fun e=>by have:=hvq b hb;simp at e;omega)
    have H4:=Lib.hid h4
    have hc4:=kq4.cell
    have hf4:=kq4.frozen
    have KX4:=Lib.hid (KX.out.moved m4 nFcx)
    have kxc:=KX4.out.cell
    have kset:=kq4.set_ 2 (.int .u64 (an2:Int))
    have hcs:=kset.cell
    have ls4:gq<w4.heap.size:=kq4.lt
    have KQ4:=Lib.hid kq4
    have hss:(w4.setCell ⟨gq,2,none⟩ (.int .u64 (an2:Int))).heap.size=w4.heap.size:=by simp [World.setCell]
    have hrdq:Rd ((w4.setCell ⟨gq,2,none⟩ (.int .u64 (an2:Int))).alloc (.cells #[.int .u64 (lab:Int), .slice Ae el.length ce, .int .u64 (an2:Int)] 85)) 3 (some ⟨w4.heap.size,0,none⟩) 1 [.int .u64 (lab:Int), .slice Ae el.length ce, .int .u64 (an2:Int)]:=by
     have:=yp (w4.setCell ⟨gq,2,none⟩ (.int .u64 (an2:Int))) (.int .u64 (lab:Int)) (.slice Ae el.length ce) (.int .u64 (an2:Int)) 85
     rw [hss] at this
     exact this
    clear h4 m4 kq4 own4 hcq hfq
    go_wp2_with (at_builtin;refine ZJ rfl _ _ rfl yV rfl (own5.alloc _) rfl hrdq (by intro u hu;simp at hu;rcases hu with rfl | rfl | rfl <;> rfl) (by omega) (by simp;omega) ?_)
    intro v' wn hown' hgrow hblk
    obtain ⟨fm,fs⟩:=Uz hgrow
    have DONE:=Lib.hid (show OrcAt wn g ro Fd∧Moved F Fd w wn from by
     rw [HRO.out]
     refine ⟨H4.out.keep fs.1 fun b hb=>fm b (H4.out.lt b hb) (fun e=>nqd (by rw [←e];exact hb)) (fun e=>nvd b e hb),VY M5.out ⟨fun b hb=>fm b (by have:=M5.out.size;omega) (hX b hb).1 (fun e=>by have:=hvq b e;have:=(hX b hb);have:=HGX.out;omega),fs⟩⟩)
    have hcx:∀ j,wn.cell? ⟨gx,j,none⟩=_:=fun j=>(show wn.cell? ⟨gx,j,none⟩=w4.cell? ⟨gx,j,none⟩ by simp only [World.cell?,fm gx KX4.out.lt (by omega) (fun e=>by have:=hvq gx e;omega)]).trans (KX4.out.cell j)
    clear hgrow hblk hown' fm fs kxc hc4 hf4 hcs kset own5
    go_wp2
    go_ret2
    exact ⟨_,Fd,by rw [HRES.out];rfl,DONE.out⟩
   ·have hkl:k<path.length:=by omega
    have hdrop:path.drop k=path.getD k 0 :: path.drop (k+1):=by
     rw [List.drop_eq_getElem_cons hkl,List.getD_eq_getElem?_getD,List.getElem?_eq_getElem hkl];rfl
    have hdv:i / 2^k / 2=i / 2^(k+1):=by rw [Nat.pow_succ,Nat.div_div_eq_div_mul]
    have hrv:=ERV.out
    have hro:=ERO.out
    rw [hdrop] at hrv hro
    rw [(VN HQ.out).1,hdv] at hrv
    rw [(VN HQ.out).2,hdv] at hro
    have dkk:((k:Int) == (path.length:Int))=false:=by rw [beq_eq_false_iff_ne];omega
    have HRV:=Lib.hid hrv
    have HRO:=Lib.hid hro
    have HKL:=Lib.hid hkl
    clear hrv hro ERV ERO hdrop hdv hkn
    go_wp2_with fail
    refine CALL.out.mono ?_
    rintro _ w4 ⟨rfl,Fd,h4,m4⟩
    have kq4:=KQ.out.moved m4 nFcq
    have own4:=YU OWN.out m4 (fun b hb=>(HAV.out b hb).1)
    have nqd:=Zn m4 hsz nFcq
    have nxd:=Zn m4 KX.out.lt nFcx
    have nvd:∀ b,u11.ownBlock=some b→¬Fd b:=fun b hb=>Zn m4 (OWN.out.lt b hb).2 (HAV.out b hb).1
    have hvq:∀ b,u11.ownBlock=some b→gq+1≤b:=fun b hb=>(own4.lt b hb).1
    have M5:=Lib.hid (M1.out.trans m4)
    have own5:(w4.setCell ⟨gq,2,none⟩ (.int .u64 (an2:Int))).ownsRow (gq+1) 85 3 u11 n cs:=ZE own4 fun b hb=>Below.heap_setCell w4 _ _ b (fun e=>by have:=hvq b hb;simp at e;omega)
    have H4:=Lib.hid h4
    have hc4:=kq4.cell
    have hf4:=kq4.frozen
    have KX4:=Lib.hid (KX.out.moved m4 nFcx)
    have kxc:=KX4.out.cell
    have kset:=kq4.set_ 2 (.int .u64 (an2:Int))
    have hcs:=kset.cell
    have ls4:gq<w4.heap.size:=kq4.lt
    have KQ4:=Lib.hid kq4
    have hss:(w4.setCell ⟨gq,2,none⟩ (.int .u64 (an2:Int))).heap.size=w4.heap.size:=by simp [World.setCell]
    have hrdq:Rd ((w4.setCell ⟨gq,2,none⟩ (.int .u64 (an2:Int))).alloc (.cells #[.int .u64 (lab:Int), .slice Ae el.length ce, .int .u64 (an2:Int)] 85)) 3 (some ⟨w4.heap.size,0,none⟩) 1 [.int .u64 (lab:Int), .slice Ae el.length ce, .int .u64 (an2:Int)]:=by
     have:=yp (w4.setCell ⟨gq,2,none⟩ (.int .u64 (an2:Int))) (.int .u64 (lab:Int)) (.slice Ae el.length ce) (.int .u64 (an2:Int)) 85
     rw [hss] at this
     exact this
    clear h4 m4 kq4 own4 hcq hfq
    go_wp2_with (at_builtin;refine ZJ rfl _ _ rfl yV rfl (own5.alloc _) rfl hrdq (by intro u hu;simp at hu;rcases hu with rfl | rfl | rfl <;> rfl) (by omega) (by simp;omega) ?_)
    intro v' wn hown' hgrow hblk
    obtain ⟨fm,fs⟩:=Uz hgrow
    have hcx:∀ j,wn.cell? ⟨gx,j,none⟩=_:=fun j=>(show wn.cell? ⟨gx,j,none⟩=w4.cell? ⟨gx,j,none⟩ by simp only [World.cell?,fm gx KX4.out.lt (by omega) (fun e=>by have:=hvq gx e;omega)]).trans (KX4.out.cell j)
    have hKw:∀ b,K b→b<w.heap.size→wn.heap[b]?=w.heap[b]?:=fun b hb hl=>(fm b (by have:=M5.out.size;omega) (hX b hl).1 (fun e=>by have:=hvq b e;have:=HGX.out;omega)).trans (M5.out.block b hl (HK.out b hb).2)
    have krp:=Ya HP.out (Nat.le_trans M5.out.size fs.1) hKw
    obtain ⟨b3,q3,eP,hb3,hcp⟩:=ZN (ZO (Zq krp)).2.2.2.2 HKL.out
    have hpx:=Xb (ZO (Zq krp)).2.2.2.1 HKL.out
    subst eP
    have HPX:=Lib.hid hpx
    have FM:=Lib.hid fm
    have FS:=Lib.hid fs
    have OWNn:=Lib.hid hown'
    have HBLK:=Lib.hid hblk
    have GROW:=Lib.hid hgrow
    have kqn:=(kset.alloc (.cells #[.int .u64 (lab:Int), .slice Ae el.length ce, .int .u64 (an2:Int)] 85)).grown hgrow (fun e=>by have:=hvq gq e.symm;omega)
    have hkI:(k:Int)≤10:=by omega
    have hkl2:(k:Int)<(path.length:Int):=by have:=HKL.out;omega
    have hk0:(0:Int)≤(k:Int):=by omega
    obtain ⟨px,hpx⟩:∃ px,px=path.getD k 0:=⟨_,rfl⟩
    rw [←hpx] at hcp HPX HRV HRO
    clear hgrow hblk hown' fm fs kxc hc4 hf4 hcs kset own5 hrdq hKw krp hpx
    have KQN:=Lib.hid kqn
    have lqn:=kqn.lt
    have hpair:=Blk.new wn 26 #[.int .u64 (an2:Int), .int .u64 (px:Int)]
    have halp:=(Below.refl wn.heap.size wn).alloc (Nat.le_refl _) (.cells #[.int .u64 (an2:Int), .int .u64 (px:Int)] 26)
    have kqp:=kqn.below halp kqn.lt
    have H64:=Lib.hid (show an2<18446744073709551616 by have:=HAN.out;unfold Zg at this;omega)
    have hjl:i / 2^k<1024:=Nat.lt_of_le_of_lt (Nat.div_le_self _ _) hi
    have hbt:=GU ⟨i / 2^k,hjl⟩
    simp only at hbt
    rw [show ((i / 2^k:Nat):Int)=(i:Int) / 2^k by simp] at hbt
    have hss2:wn.heap.size<(wn.alloc (.cells #[.int .u64 (an2:Int), .int .u64 (px:Int)] 26)).heap.size:=by simp
    clear kqn hjl
    by_cases hodd:i / 2^k%2=1
    ·rw [hodd] at hbt
     have dd:((1:Int) == 1)=true:=rfl
     have REL2:=Lib.hid (fun w9 a9 s9 o9 kq9 kp9=>VC (w9:=w9) (el':=[px,an2]) (O':=Yt Oc lab el) (rv:=rv) (ro:=ro) (path:=path) (i:=i) (np:=path.length) (id:=true) H4.out M5.out (by rw [Xv];exact hid1) (Zs (XG HO1.out lab el) (by omega)) FM.out FS.out nvd hvq nqd nxd KX4.out hgx (by have:=HGX.out;omega) OWNn.out (HBLK.out.imp id fun h=>h.trans (by first | rfl | (simp [World.setCell];done))) hnk (by have:=HKL.out;omega) a9 s9 o9 kq9 kp9 rfl (ZP HPX.out (ZP H64.out fun _ h=>nomatch h)) ls4 (by have:=HRV.out;rw [if_pos hodd] at this;exact this) (by have:=HRO.out;rw [if_pos hodd] at this;exact this))
     clear hodd
     go_upto_region 14 with fail
     generalize hwp:wn.alloc _=wp at kqp hpair halp hss2 ⊢
     obtain ⟨gp,hgp⟩:∃ gp,gp=wn.heap.size:=⟨_,rfl⟩
     have HGP:=Lib.hid hgp
     rw [←hgp] at hpair ⊢
     have lgp:gq<gp:=by rw [hgp];exact lqn
     have hcp2:=hpair.cell
     have lpp:=hpair.lt
     have KQP:=Lib.hid kqp
     have HALP:=Lib.hid halp
     have HSS2:=Lib.hid hss2
     clear kqp halp hwp hgp hss2
     refine V8 (ZQ) [9,11] [9] [1,5,6] [0,1,2,3,4,5,6,7,8,9,10,11] (by kernel_rfl) (by kernel_rfl) ?_
     refine JL (later_moves) ?_
     intro Wc hacc
     repeat (first | (refine Xl (later_moves) rfl rfl rfl (fun _ _ _ h=>h) ?_;simp only [Act.put,zLa,zLb,zLc]) | (refine YV (v:=?_) (later_moves) rfl rfl rfl rfl (fun _ _ _ h=>h) ?_ ?_;rotate_left;(· (intro w' hR;(first | have hcells:=Zc ((later_moves).trans _ _ _ hacc (hR rfl)) | skip);clear hR;go_simp;try with_reducible rfl));simp only [Act.put,zLa,zLb,zLc]) | (refine Xe (v:=?_) (later_moves) rfl rfl rfl (fun _ _ _ h=>h) ?_ ?_;rotate_left;(· (intro w';go_simp;try with_reducible rfl));simp only [Act.put,zLa,zLb,zLc]))
     refine YT (later_moves) rfl rfl rfl ?_
     replace hpair:=hpair.drew.below hacc hpair.lt
     have KQP2:=Lib.hid (KQP.out.drew.below hacc KQP.out.lt)
     have hcp3:=hpair.cell
     have hfp3:=hpair.frozen
     have HACC:=Lib.hid hacc
     clear hcp2 hacc lpp
     go_simp
     refine ⟨fun h=>Bool.noConfusion h,?_⟩
     have hset0:=hpair.set_ 0 (.int .u64 (px:Int))
     have hsn:Below wn.heap.size wn (Wc.setCell ⟨gp,0,none⟩ (.int .u64 (px:Int))):=(HALP.out.trans (VS (Nat.le_of_lt HSS2.out) HACC.out)).setCell (by rw [HGP.out];exact Nat.le_refl _) _
     have hkq1:Blk (Wc.setCell ⟨gp,0,none⟩ (.int .u64 (px:Int))) gq 85 _:=KQP2.out.far (p:=⟨gp,0,none⟩) (by simp;omega) _
     try simp only [Act.put,zLa,zLb,zLc]
     generalize Wc.setCell _ _=w6 at hset0 hsn hkq1 ⊢
     have hc0:=hset0.cell
     have hf0:=hset0.frozen
     clear hpair hcp3 hfp3 KQP2
     have hacc:=later_moves.refl w6
     repeat (first | (refine Xl (later_moves) rfl rfl rfl (fun _ _ _ h=>h) ?_;simp only [Act.put,zLa,zLb,zLc]) | (refine YV (v:=?_) (later_moves) rfl rfl rfl rfl (fun _ _ _ h=>h) ?_ ?_;rotate_left;(· (intro w' hR;(first | have hcells:=Zc ((later_moves).trans _ _ _ hacc (hR rfl)) | skip);clear hR;go_simp;try with_reducible rfl));simp only [Act.put,zLa,zLb,zLc]) | (refine Xe (v:=?_) (later_moves) rfl rfl rfl (fun _ _ _ h=>h) ?_ ?_;rotate_left;(· (intro w';go_simp;try with_reducible rfl));simp only [Act.put,zLa,zLb,zLc]))
     refine YT (later_moves) rfl rfl rfl ?_
     go_simp
     refine ⟨fun h=>Bool.noConfusion h,?_⟩
     have hset1:=hset0.set_ 1 (.int .u64 (an2:Int))
     have hsn1:Below wn.heap.size wn (w6.setCell ⟨gp,1,none⟩ (.int .u64 (an2:Int))):=hsn.setCell (by rw [HGP.out];exact Nat.le_refl _) _
     have hkq2:Blk (w6.setCell ⟨gp,1,none⟩ (.int .u64 (an2:Int))) gq 85 _:=hkq1.far (p:=⟨gp,1,none⟩) (by simp;omega) _
     try simp only [Act.put,zLa,zLb,zLc]
     generalize w6.setCell _ _=wp2 at hset1 hsn1 hkq2 ⊢
     refine U0 ?_
     have HPAIR:Hid (Blk wp2 wn.heap.size 26 (U64 [px,an2]).toArray):=by
      show Blk _ _ _ _
      rw [←HGP.out]
      simpa [U64] using hset1
     have hcp4:=hkq2.cell
     have hfp4:=hkq2.frozen
     have KQP:=Lib.hid hkq2
     have HALP2:=Lib.hid hsn1
     have HSS2:=Lib.hid (show wn.heap.size<wp2.heap.size by rw [←HGP.out];exact hset1.lt)
     clear hset0 hset1 hsn hsn1 hkq1 hkq2 hc0 hf0 hacc HALP
     go_wp2_with fail
     rw [HGP.out]
     have hse:∀ (x0 x1 x2:Value) b,b≠gq→(((wp2.setCell ⟨gq,0,none⟩ x0).setCell ⟨gq,1,none⟩ x1).setCell ⟨gq,2,none⟩ x2).heap[b]?=wp2.heap[b]?:=fun x0 x1 x2 b hb=>(Below.heap_setCell _ ⟨gq,2,none⟩ x2 b hb).trans ((Below.heap_setCell _ ⟨gq,1,none⟩ x1 b hb).trans (Below.heap_setCell wp2 ⟨gq,0,none⟩ x0 b hb))
     have hfin:=REL2.out (((wp2.setCell ⟨gq,0,none⟩ (.int .u64 17)).setCell ⟨gq,1,none⟩ (.slice (some ⟨wn.heap.size,0,none⟩) 2 2)).setCell ⟨gq,2,none⟩ (.int .u64 0)) (fun b hb hn=>(hse _ _ _ b hn).trans (HALP2.out.block b hb)) (by simpa [World.setCell] using HSS2.out) ⟨HALP2.out.os,HALP2.out.tape,HALP2.out.output⟩ (by have:=((KQP.out.set_ 0 (.int .u64 17)).set_ 1 (.slice (some ⟨wn.heap.size,0,none⟩) 2 2)).set_ 2 (.int .u64 0);simpa using this) ((hse _ _ _ _ (by omega)).trans HPAIR.out)
     refine ⟨by rw [show (k:Int)+1=((k+1:Nat):Int) by simp];exact hfin,by have:=HKL.out;simp [intOf];omega⟩
    ·have h0:i / 2^k%2=0:=by omega
     rw [h0] at hbt
     have dd:(((0:Nat):Int) == 1)=false:=rfl
     have REL2:=Lib.hid (fun w9 a9 s9 o9 kq9 kp9=>VC (w9:=w9) (el':=[an2,px]) (O':=Yt Oc lab el) (rv:=rv) (ro:=ro) (path:=path) (i:=i) (np:=path.length) (id:=true) H4.out M5.out (by rw [Xv];exact hid1) (Zs (XG HO1.out lab el) (by omega)) FM.out FS.out nvd hvq nqd nxd KX4.out hgx (by have:=HGX.out;omega) OWNn.out (HBLK.out.imp id fun h=>h.trans (by first | rfl | (simp [World.setCell];done))) hnk (by have:=HKL.out;omega) a9 s9 o9 kq9 kp9 rfl (ZP H64.out (ZP HPX.out fun _ h=>nomatch h)) ls4 (by have:=HRV.out;rw [if_neg hodd] at this;exact this) (by have:=HRO.out;rw [if_neg hodd] at this;exact this))
     clear hodd h0
     go_upto_region 15 with fail
     generalize hwp:wn.alloc _=wp at kqp hpair halp hss2 ⊢
     have hcp2:=kqp.cell
     have hfp2:=kqp.frozen
     have HPAIR:=Lib.hid hpair
     have KQP:=Lib.hid kqp
     have HALP:=Lib.hid halp
     have HSS2:=Lib.hid hss2
     clear hpair kqp halp hwp
     go_wp2_with fail
     have hse:∀ (x0 x1 x2:Value) b,b≠gq→(((wp.setCell ⟨gq,0,none⟩ x0).setCell ⟨gq,1,none⟩ x1).setCell ⟨gq,2,none⟩ x2).heap[b]?=wp.heap[b]?:=fun x0 x1 x2 b hb=>(Below.heap_setCell _ ⟨gq,2,none⟩ x2 b hb).trans ((Below.heap_setCell _ ⟨gq,1,none⟩ x1 b hb).trans (Below.heap_setCell wp ⟨gq,0,none⟩ x0 b hb))
     have hfin:=REL2.out (((wp.setCell ⟨gq,0,none⟩ (.int .u64 17)).setCell ⟨gq,1,none⟩ (.slice (some ⟨wn.heap.size,0,none⟩) 2 2)).setCell ⟨gq,2,none⟩ (.int .u64 0)) (fun b hb hn=>(hse _ _ _ b hn).trans (HALP.out.block b hb)) (by simpa [World.setCell] using HSS2.out) ⟨HALP.out.os,HALP.out.tape,HALP.out.output⟩ (by have:=((KQP.out.set_ 0 (.int .u64 17)).set_ 1 (.slice (some ⟨wn.heap.size,0,none⟩) 2 2)).set_ 2 (.int .u64 0);simpa using this) ((hse _ _ _ _ (by omega)).trans HPAIR.out)
     refine ⟨by rw [show (k:Int)+1=((k+1:Nat):Int) by simp];exact hfin,by have:=HKL.out;simp [intOf];omega⟩
end Go.Proofs.Ytbiieaiahdihnaa
