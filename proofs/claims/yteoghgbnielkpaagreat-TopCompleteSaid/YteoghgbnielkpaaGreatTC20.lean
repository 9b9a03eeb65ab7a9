/- A part of the proof. No condition. -/
import Derived.Test.YteoghgbnielkpaaGreatTC18
import Derived.Test.YteoghgbnielkpaaGreatTC19

set_option maxRecDepth 100000
set_option maxHeartbeats 8000000
set_option linter.unusedVariables false
set_option linter.unusedSimpArgs false
namespace Go.Proofs.YteoghgbnielkpaaGreat
open Go.RowKit Go.Maps
open Tryz
open Go renaming World->vw, Value->vx, Addr->vy, TypeId->vz, Calls->vB
open Go.Value renaming int->vd, slice->ve, agg->vf
open Go.IntKind renaming u64->vn, i64->vq
open Go.Ending renaming returned->vl
open Go.RowKit renaming Below->vA
open Go.World renaming setCell->vF
open Go.Act renaming put->vG
open Option renaming none->vD, some->vE
theorem uV {f g:Nat -> Nat} (n:Nat):∀ k,(∀ i,i<k -> f i=g i) -> Ej f n k=Ej g n k
 | 0,_=>rfl
 | k+1,h=>by
  rw [Ej,Ej,uV n k fun i hi=>h i (by omega),h k (by omega)]
theorem tW {O:Ha} {s j:Nat}:∀ q,j <= q -> Pd (Vb O 19 (qj s 0 j)) (Vb O 19 (qj s 0 q))
 | 0,h=>by
  obtain rfl:j=0:=by omega
  exact fun _ _ _ h=>h
 | q+1,h=>by
  by_cases e:j=q+1
  ·subst e
   exact fun _ _ _ h=>h
  ·rw [tS O s 0 q]
   exact dh (tW q (by omega)) (GA _ _ _)
theorem zGW {O Z:Ha} {s q i:Nat} (h:Pd (Vb O 19 (qj s 0 q)) Z) (hi:i<q):Mm Z s 0 i=Mm O s 0 i:=by
 unfold Mm;rw [SV (qj s 0 i) (dh (tW q (by omega)) h)]
 exact (mJ (O:=Vb O 19 (qj s 0 i)) (by rw [<- tS];exact dh (tW q (by omega)) h)).1
theorem zGX {O Z:Ha} {s n q:Nat} (h:Pd (Vb O 19 (qj s 0 q)) Z):Br Z s 0 n q=Br O s 0 n q:=by
 unfold Br;rw [uV n q fun i hi=>zGW h hi]
theorem zG0 {O Z:Ha} {st ct n q:Nat} {all:List Nat} (h:Pd (Hi ⟨O,st,ct⟩ all q) Z):Cl ⟨Z,st,ct⟩ all n q=Cl ⟨O,st,ct⟩ all n q:=by
 have ha:Pd (Kg ⟨O,st,ct⟩ 3 all).O Z:=dh (VK _ _ _) h;unfold Cl;rw [bN ha];exact zGX h
theorem zGV {Z:Ha} {s:Tr} {all:List Nat} {n q:Nat} (hc:s.ct=3) (h:Pd (Hi s all q) Z):Cl ⟨Z,s.st,3⟩ all n q=Cl s all n q:=by
 cases s
 simp only at hc;subst hc;exact zG0 h
theorem zGY {O Z:Ha} {st root p:Nat} (h:Pd (Td ⟨O,st,0⟩ root).O Z):fj ⟨Z,st,0⟩ p root=fj ⟨O,st,0⟩ p root:=by
 obtain ⟨a,ha⟩:=zEX (Kg ⟨O,st,0⟩ 2 [root]);have hc:a.ct=0:=by rw [ha];rfl
 have e:Td ⟨O,st,0⟩ root=uc (uc (uc a)):=by rw [ha];rfl
 rw [e] at h;have h2:Pd (uc (uc a)).O Z:=dh (GA _ _ _) h;have h1:Pd (uc a).O Z:=dh (GA _ _ _) h2;have h0:Pd a.O Z:=dh (GA _ _ _) h1;have ez:Kg ⟨Z,st,0⟩ 2 [root]=⟨Z,a.st,0⟩:=by rw [bN (by rw [<- ha];exact h0),<- ha]
 have r1:uc ⟨Z,a.st,0⟩=⟨Z,a.st,1⟩:=cN (O:=a.O) (by rw [<- hc];exact h1)
 have e1:(⟨(uc a).O,a.st,1⟩:Tr)=uc a:=by simp [uc,hc]
 have r2:uc ⟨Z,a.st,1⟩=⟨Z,a.st,2⟩:=cN (O:=(uc a).O) (by rw [e1];exact h2)
 have e2:(⟨(uc (uc a)).O,a.st,2⟩:Tr)=uc (uc a):=by simp [uc,hc]
 have v0:Mo ⟨Z,a.st,0⟩=Mo a:=by
  have:=(mJ (O:=a.O) (lab:=19) (el:=[a.st,a.ct]) h1).1;unfold Mo;rw [hc] at this |-;exact this
 have v1:Mo ⟨Z,a.st,1⟩=Mo (uc a):=by
  have:=(mJ (O:=(uc a).O) (lab:=19) (el:=[(uc a).st,(uc a).ct]) h2).1;unfold Mo;simp only [uc,hc] at this |-;exact this
 have v2:Mo ⟨Z,a.st,2⟩=Mo (uc (uc a)):=by
  have:=(mJ (O:=(uc (uc a)).O) (lab:=19) (el:=[(uc (uc a)).st,(uc (uc a)).ct]) h).1;unfold Mo;simp only [uc,hc] at this |-;exact this
 unfold fj;rw [ez,r1,r2,v0,v1,v2,<- ha]
theorem TY {l:List Nat} (h:∀ x∈l,x<zb):Xc l=true:=fe.2 fun x hx=>tb (h x hx)
theorem rO {l:List Nat} (h:Xc l=true):∀ x∈l,x<zb:=fun x hx=>of_decide_eq_true (fe.1 h x hx)
theorem zE3 {O T:Ha} {d:Nat} {ls:List (List Nat)} {sa:List Nat} (hd:d <= 10) (hn:ls.length=2^d) (hsl:sa.length=ls.length) (dp:Xc sa=true) (hle:∀ l∈ls,Xc l=true) (hO:Gl O)
  (hT:Pd (Jw d (Vb O 16 (qg ls sa)) (Le O 16 (qg ls sa))) T) {i:Nat} (hi:i<ls.length) :
  Cp T (yp (Hg d (Vb O 16 (qg ls sa)) (Le O 16 (qg ls sa)))) ls.length i (sa.getD i 0) (ls.getD i []) (Fi (Hg d (Vb O 16 (qg ls sa)) (Le O 16 (qg ls sa))) i)=true /\
   zp T (yp (Hg d (Vb O 16 (qg ls sa)) (Le O 16 (qg ls sa)))) ls.length i (sa.getD i 0) (ls.getD i []) (Fi (Hg d (Vb O 16 (qg ls sa)) (Le O 16 (qg ls sa))) i)=T:=by
 have hql:(qg ls sa).length=ls.length:=rK _ _;have hqe:∀ q∈qg ls sa,Xc q=true:=fun q hq=>by
  simp only [qg,Ed,Oi] at hq;obtain ⟨k,hk,rfl⟩:=hq;exact TY fun x hx=>by
   rcases Dh.1 hx with e | e
   ·rw [e];exact WJ (rO dp) k
   ·exact rO (hle _ (Cv [] hk)) x e
 have ha:=dY O 16 (qg ls sa) hqe i (by omega)
 rw [Q2 ls sa i hi] at ha;have hv:=LJ hO 16 (qg ls sa);have Pk:(Le O 16 (qg ls sa)).length=2^d:=by rw [zy,hql,hn]
 have hOa:=JJ hO 16 (qg ls sa);generalize Le O 16 (qg ls sa)=L at *;generalize Vb O 16 (qg ls sa)=O1 at *;have hA:=hT _ _ _ (jS d L ha);obtain ⟨w1,w2⟩:=zAJ (T:=T) d O1 L 16 (sa.getD i 0 :: ls.getD i []) i Pk hv hT hOa (by omega) hA
 have ht:=zAr O1 hd Pk;have hta:=LW d O1 L hOa hv;have hp:yA (yp (Hg d O1 L)) ls.length i (sa.getD i 0) (ls.getD i []) (Fi (Hg d O1 L) i)=true:=by
  unfold yA;rw [show uw ls.length=true by rw [hn];exact YU hd,tb hi,tb (show 2^(Fi (Hg d O1 L) i).length=ls.length by rw [QM,Jm,Eo,ht.len,hn];rfl),
   tb (show yp (Hg d O1 L)<zb by rw [P8 ht];exact cW hta d 0),tb (WJ (rO dp) i),hle _ (Cv [] hi),TY (rV hta i)]
  rfl
 unfold Cp zp;rw [hp,w1,w2];exact ⟨by simp,rfl⟩
theorem aN {l:List Nat} {n p:Nat} (hl:l.length=n) (h:∀ y∈l,y<p):Tk l (n:Int) p=true:=by
 unfold Tk;rw [mc,fe];exact ⟨fun y hy=>tb (h y hy),by rw [hl];simp⟩
theorem O4 {ls:List (List Nat)} {m n p:Nat} (hl:ls.length=m) (h:∀ l∈ls,l.length=n /\ ∀ y∈l,y<p):mw ls (m:Int) (n:Int) p=true:=by
 unfold mw;rw [mc,fe];exact ⟨fun l hx=>aN (h l hx).1 (h l hx).2,by rw [hl];simp⟩
section
section
variable {x:PvIn} (O:Ha)
theorem PvIn.pos_len (h:x.Good):(x.pos O).length=x.L.queries:=L3 _ _ _ _ (by have:=h.L.nk;have:=h.L.k;omega)
theorem PvIn.pos_lt (h:x.Good):∀ y∈x.pos O,y<x.L.n:=S7 _ _ _ _ _ (by have:=h.L.nk;have:=h.L.k;omega)
theorem PvIn.cols_get {i:Nat} (hi:i<x.L.n):x.cols.getD i []=(List.range (x.m.length+3)).map (Js x.L (Fj x.L x.m x.crs x.l1 x.l2 x.l3) i):=by
 unfold PvIn.cols;rw [Cb,Zt,oz hi]
 rfl
theorem PvIn.cols_lt (h:x.Good):∀ l∈x.cols,∀ y∈l,y<x.L.p:=fun l hl y hy=>by
 obtain ⟨i,-,rfl⟩:=Ed.1 hl;obtain ⟨j,-,rfl⟩:=Ed.1 hy;exact uO (p:=x.L.p) (by have:=Pb h.L.p;omega) x.L.n x.L.n.log2 _ (Kb x.L.p).1 i
theorem PvIn.valid (h:x.Good) (ha:Gl (x.t1 O).O):ei x.L x.dd (x.pr O)=true:=by
 have zg:0<x.L.p:=by have:=Pb h.L.p;omega
 have qy:=x.tree_lt O ha;have hr:x.root O<zb:=R8 qy;have hs:(x.tree O).length=x.dd+1:=(eR _ _ _ (by rw [zy,rK,x.cols_len,h.n])).1
 have Xe:=pos_len O h;have bA:=pos_lt O h;unfold ei;rw [mc,mc,mc,mc,mc,mc];refine ⟨?_,aN (by simp [PvIn.pr,PvIn.code]) (x.code_lt zg h.c1.2 _),aN (by simp [PvIn.pr,PvIn.lin]) (x.lin_lt zg h.c2.2 _),aN (by simp [PvIn.pr,PvIn.quad]) (x.quad_lt zg _),O4 (by simp [PvIn.pr,Xe]) fun l hl=>?_,aN (by simp [PvIn.pr,Xe]) fun y hy=>?_,O4 (by simp [PvIn.pr,Xe]) fun l hl=>?_⟩
 ·rw [Xk,mu]
  have:Me=zb:=rfl;show ¬Me <= x.root O
  omega
 ·obtain ⟨i,hi,rfl⟩:=Ed.1 hl
  have hm:x.cols.getD i []∈x.cols:=Cv [] (by rw [x.cols_len];exact bA i hi)
  exact ⟨by rw [x.cols_row _ hm,h.ms.ml],cols_lt h _ hm⟩
 ·obtain ⟨i,hi,rfl⟩:=Ed.1 hy
  exact WJ (rO h.c4.2) i
 ·obtain ⟨i,hi,rfl⟩:=Ed.1 hl
  exact ⟨by rw [QM,Jm,Eo,hs];rfl,rV qy i⟩
theorem PvIn.again_ch {Z:Ha} (hZ:Pd (x.oF O) Z):fj (Jd Z x.L x.dg x.pu) x.L.p (x.root O)=x.ch O:=by
 rw [TV (O:=O) (dh (x.sub1 O) (dh (x.sub2 O) (dh (x.sub3 O) hZ)))];exact zGY (O:=x.o2 O) (dh (x.sub3 O) hZ)
theorem PvIn.again_t2 {Z:Ha} (hZ:Pd (x.oF O) Z):Td (Jd Z x.L x.dg x.pu) (x.root O)=⟨Z,(x.t2 O).st,3⟩:=by
 rw [TV (O:=O) (dh (x.sub1 O) (dh (x.sub2 O) (dh (x.sub3 O) hZ)))];exact O8 (O:=x.o2 O) (dh (x.sub3 O) hZ)
theorem PvIn.t2_ct:(x.t2 O).ct=3:=E9 _ _ _
theorem PvIn.again_pos {Z:Ha} (hZ:Pd (x.oF O) Z):Cl (Td (Jd Z x.L x.dg x.pu) (x.root O)) (x.all O) x.L.n x.L.queries=x.pos O:=by
 rw [again_t2 O hZ];exact zGV (t2_ct O) hZ
theorem PvIn.again_o {Z:Ha} (hZ:Pd (x.oF O) Z):Hi (Td (Jd Z x.L x.dg x.pu) (x.root O)) (x.all O) x.L.queries=Z:=by
 rw [again_t2 O hZ];exact N8 (t2_ct O) hZ
theorem PvIn.opens (h:x.Good) (ha:Gl (x.t1 O).O) {Z:Ha} (hZ:Pd (x.oF O) Z) {i:Nat} (hi:i<x.L.n) :
  Cp Z (x.root O) x.L.n i (x.l4.getD i 0) (x.cols.getD i []) (Fi (x.tree O) i)=true /\ zp Z (x.root O) x.L.n i (x.l4.getD i 0) (x.cols.getD i []) (Fi (x.tree O) i)=Z:=by
 have:=zE3 (O:=(x.t1 O).O) (T:=Z) (ls:=x.cols) (sa:=x.l4) h.dd (by rw [x.cols_len,h.n]) (by rw [x.cols_len];exact h.c4.1) h.c4.2 (x.cols_els h.L.p) ha (dh (x.sub2 O) (dh (x.sub3 O) hZ)) (i:=i) (by rw [x.cols_len];exact hi)
 rw [x.cols_len] at this;exact this
theorem PvIn.fits (h:x.Good) (al rh be:Nat) {i:Nat} (hi:i<x.L.n):BB x.L (Uh x.L x.pub rh x.rows) al be (x.code al) (x.lin rh) (x.quad be) (i:Int) (x.cols.getD i [])=true:=by
 rw [cols_get hi,<- ref_code h,<- ref_lin h,<- ref_quad h];exact zBY h.L h.ms (fun _ hr=>ZN _ hr) (coef_len h rh) h.c1 h.c2 h.c3.1 al be hi
theorem PvIn.tests (h:x.Good) (hm:∀ r∈x.m,∀ y∈r,y<x.L.p) (al rh be t:Nat):mG x.L t (x.code al) (x.lin rh) (x.quad be)=bD x.L t (Uh x.L x.pub rh x.rows) x.m be:=by
 rw [<- ref_code h,<- ref_lin h,<- ref_quad h];exact zHT h.L h.ms hm (fun _ hr=>ZN _ hr) (coef_len h rh) h.c1 h.c2 h.c3.1 al be t
end
end
theorem IJ {p:Nat} {vars:Int} {ws:List Nat} (h:Th p vars ws=true):(ws.length:Int)=vars /\ ws.getD 0 0=1 /\ (ws.all fun y=>decide (y<p))=true:=by
 unfold Th at h;simp only [mc,Xk,iu] at h;exact ⟨h.1.1.1,by have:=h.1.2;omega,h.2⟩
theorem oF_le (x:PvIn) (O:Ha) {k:Nat} (hn:x.L.n=2^x.dd) (h:pc O k):pc (x.oF O) (k+1+2*x.L.n+4+1+x.L.queries):=by
 have h1:pc (x.t1 O).O (k+1):=pq h 18 _;have h2:=x.o2_le O hn h1;have h3:pc (x.t2 O).O (k+1+2*x.L.n+4):=kQ h2 _ _ _;have h4:pc (Kg (x.t2 O) 3 (x.all O)).O (k+1+2*x.L.n+4+1):=pq h3 18 _;have h5:=aD (lab:=19) (qj (Kg (x.t2 O) 3 (x.all O)).st 0 x.L.queries) h4;rw [IU] at h5;exact h5
theorem XZ {K:Nat -> Prop} {w:vw} {A:Option vy} {n c:Nat} {l:List Nat} (h:Hd K w fun u=>RWd u [ve A n c] l) {i:Nat} (hi:i<l.length):n=l.length /\ ∃ b q,A=vE ⟨b,q,vD⟩ /\ K b /\ b<w.1.size /\ w.cell? ⟨b,q+i,vD⟩=vE (vd vn ((l.getD i 0:Nat):Int)):=by
 obtain ⟨hn,-,-,-,hr⟩:=Nb (Yg h);rw [hn] at hr;obtain ⟨b,q,rfl,hb,hc⟩:=Fg hr hi;refine ⟨hn,b,q,rfl,yJ fun hK=>?_,hb,hc⟩
 obtain ⟨pC,-,-,-,dt⟩:=Nb (h (eG w b) (aS hK));rw [pC] at dt;obtain ⟨b',q',e,-,yu⟩:=Fg dt hi
 injection e with e
 injection e with e1 e2
 subst e1 e2;rw [qW hb] at yu;cases yu
theorem zEA {L:Ma} {rows:List Ua} {ws:List Nat} {pu:Nat} (hp:0<L.p) (hw:∀ x∈ws,x<L.p):∀ x∈dk L rows ws pu,∀ y∈x,y<L.p:=fun x hx y hy=>by
 obtain ⟨j,hj,rfl⟩:=Hm hy;have:=zEB hp hw hx j
 rwa [Cb,Xb hj] at this
theorem zHl {p:Nat} {rows:List Ua} {ws:List Nat} (h:Gw p rows ws=true):∀ r∈rows,Ec p r.a ws*Ec p r.b ws%p=Ec p r.c ws:=fun r hr=>of_decide_eq_true (fe.1 h r hr)
section
variable {L:Ma} {j pu coin:Nat} {vars:Int} {rows:List Ua} {ws:List Nat} {bl bw qs:Int} {O:Ha} {k:Nat}
end
theorem UP {V:Nat -> Prop} {w:vw} {x:Nat} (hx:V x) (i:Nat) (u:vx):Moved V V w (w.setCell ⟨x,i,vD⟩ u) :=
 ⟨rfl,rfl,rfl,by simp [vF],fun b _ hn=>ug w _ u b (fun e=>hn (by subst e;exact hx)),fun _ h=>.inl h⟩
theorem set_lt {l:List Nat} {p i y:Nat} (h:∀ x∈l,x<p) (hy:y<p):∀ x∈l.set i y,x<p:=fun x hx=>(List.mem_or_eq_of_mem_set hx).elim (h x) fun e=>e ▸ hy
theorem zBD {w:vw} {g i:Nat} {t:vz} {l:List Nat} (k:Blk w g t (Oa l).toArray) (y:Nat):Blk (w.setCell ⟨g,i,vD⟩ (vd vn y)) g t (Oa (l.set i y)).toArray:=by
 have h:=k.set_ i (vd vn y)
 rwa [Da,show (Oa l).set i (vd vn y)=Oa (l.set i y) by simp [Oa,List.map_set]] at h
def Nx28 (gl gt p pE n:Nat) (w w':vw):Prop:=∃ (l':List Nat) (Si:Nat),l'.length=n /\ (∀ x∈l',x<p) /\ Si <= pE+n /\ Blk w' gl 22 (Oa l').toArray /\ Blk w' gt 3 #[vd vq Si] /\ Moved (fun b=>b=gl \/ b=gt) (fun b=>b=gl \/ b=gt) w w'
theorem zEM (gl ga gt:Nat) (l add:List Nat) (B:Option vy) (m d pE p:Nat) (w:vw) (kl:Blk w gl 22 (Oa l).toArray) (ka:Blk w ga 28 #[ve B m d]) (kt:Blk w gt 3 #[vd vq pE])
  (RB:Hd (fun b=>b≠gl /\ b≠gt) w fun u=>RWd u [ve B m d] add) (hl:∀ x∈l,x<p) (hp:0<p) (Wd:p<18446744073709551616) (hn:l.length <= 100000) (ht:pE <= 1000000) (h1:gl≠ga) (h2:gl≠gt) (h3:ga≠gt) :
  vB prog 104 #[ve (vE ⟨gl,0,vD⟩) l.length l.length,vd vn p, .pointer (vE ⟨ga,0,vD⟩), .pointer (vE ⟨gt,0,vD⟩)] w fun e w'=>e=vl (.tuple #[]) /\ Nx28 gl gt p pE l.length w w':=by
 have hm:m=add.length:=(Nb (Yg RB)).1;have Ef:=(Nb (Yg RB));have gmx:=um Ef.2.1 Ef.2.2.1;have HP:=zH hp;have ox:=zH Wd;obtain ⟨n,mg⟩:=zEX (l.length);rw [<- mg] at hn |-;have gn:(n:Int) <= 100000:=by omega
 have tN:=zH RB;have HM:=zH hm;have HT:=zH ht;have HN:=zH hn;have OD:=zH (And.intro h1 (And.intro h2 h3));have zg:((p:Int) == 0)=false:=by rw [Gd];omega
 have Li:=zH mg;clear Ef hm RB hp Wd ht mg;go_enter func104,ntmps104
 go_wp2_with fail
 go_loopw [9] (fun y wr=>∃ (i:Nat) (l':List Nat) (Si:Nat),i <= n /\ y=vd vq i /\ l'.length=n /\ Hid (∀ x∈l',x<p) /\ Si <= pE+i /\ Blk wr gl 22 (Oa l').toArray /\ Blk wr gt 3 #[vd vq Si] /\ Moved (fun b=>b=gl \/ b=gt) (fun b=>b=gl \/ b=gt) w wr) (fun y _=>n-(intOf y).toNat)
 case atStart=>exact ⟨0,l,pE,Mb _,rfl,Li.out.symm,zH hl,zR,kl,kt,Moved.refl⟩
 case round =>
  clear kl kt hl;obtain ⟨i,l',Si,hi,rfl,dm,HL,Tj,kl,kt,Sc⟩:=hrel;have ka1:=ka.moved Sc (by intro e;have:=OD.out;omega)
  by_cases ta:i<n
  ·have Zb:=zH ta
   have g1:(0:Int)<=i:=by omega
   have g2:(i:Int)<n:=by omega
   have cl:=YN kl (show i<l'.length by omega)
   have ca:=ka1.cell;have ct:=kt.cell;have ll:=kl.lt;have la:=ka1.lt;have lt:=kt.lt;have ig:=zH Sc;have Cn:=zH dm;have Hl:=zH Tj;by_cases jF:0<m
   ·have Ms:=Qd tN.out (Ek Sc fun b hb=>by omega)
    obtain ⟨x,hx⟩:=zEX (l'.getD i 0);obtain ⟨z,hz⟩:=zEX (Si%m);have hzm:z<m:=by rw [hz];exact ic _ jF
    obtain ⟨-,bB,qB,eB,kbB,lbB,WB⟩:=XZ Ms (show z<add.length by rw [<- HM.out];exact hzm)
    obtain ⟨y,hy⟩:=zEX (add.getD z 0);have hx64:x<18446744073709551616:=by rw [hx];exact il (Bv (p:=p) HP.out HL.out i) ox.out
    have hy64:y<18446744073709551616:=by rw [hy];exact (Nb (Yg Ms)).2.2.2.1 _ (Cv 0 (by rw [<- HM.out];exact hzm))
    rw [<- hx] at cl;rw [<- hy] at WB;obtain ⟨x2,Yi⟩:=zEX (x / 2);obtain ⟨y2,JC⟩:=zEX (y / 2);obtain ⟨s,hs⟩:=zEX (x2+y2);obtain ⟨r,hr⟩:=zEX (s%p);have qF:r<p:=by rw [hr];exact ic _ HP.out
    have e1:(x:Int).tdiv 2=(x2:Int):=by rw [CJ (by omega)];omega
    have e2:vn.wrap (x2:Int)=x2:=by rw [pj];omega
    have e3:(y:Int).tdiv 2=(y2:Int):=by rw [CJ (by omega)];omega
    have e4:vn.wrap (y2:Int)=y2:=by rw [pj];omega
    have e5:(x2:Int)+y2=(s:Int):=by omega
    have e6:vn.wrap (s:Int)=s:=by rw [pj];omega
    have e7:(s:Int).tmod (p:Int)=r:=by rw [hr];rfl
    have e8:vn.wrap (r:Int)=r:=by rw [pj];have:=ox.out;omega
    have e9:(Si:Int).tmod (m:Int)=z:=by rw [hz];rfl
    have eA:=ye z;obtain ⟨Jo,Ps⟩:=zEX (Si+1);have eB1:(Si:Int)+1=(Jo:Int):=by omega
    have eB2:vq.wrap (Jo:Int)=Jo:=Vk _ (by omega) (by have:=HT.out;omega)
    obtain ⟨r1,-,-,-,Un,rI,Bu⟩:=L8 Si m jF;rw [<- hz] at r1;obtain ⟨r4,-,-,-,jf,hp3,hp4⟩:=L8 s p HP.out;rw [<- hr] at r4;have r6:(x:Int) / 2=(x2:Int):=by omega
    have r7:(y:Int) / 2=(y2:Int):=by omega
    have d1:(0:Int)<m:=by omega
    have g3:(0:Int)<=z:=by omega
    have g4:(z:Int)<m:=by omega
    have HR:=zH qF;have HA2:=zH Ps;subst eB;have nB:=zH kbB;clear hx hz hy Yi JC hs hr qF hx64 hy64 Ms hzm jF Ps kbB dm Tj hi ta Sc;go_upto_region 4 with fail
    refine Pg (Ub) (ra) [19] [19] [0,1,2,3,4,5,6,7,8,9,10,11,12,13,14,15,16,17,18,19] (by kernel_rfl) (by kernel_rfl) ?_
    refine Qg (ra) ?_;intro Wc ia;refine Te ?_;refine jo rfl rfl rfl rfl ?_;intro wh Kd;replace ia:=(ra).trans _ _ _ ia Kd;have Ob:=pa (Ca wr.1.size wr).drew ia;replace kl:=ja kl Ob;replace kt:=ja kt Ob;have HXD:=zH Ob;clear Ob ia Kd cl ca ct ll la lt WB lbB;have f2:=kl.frozen;have c2:=YN kl (show i<l'.length by rw [Cn.out];exact Zb.out)
    go_simp;refine ⟨fun h=>Bool.noConfusion h,?_⟩
    have Ib:=UP (V:=fun b=>b=gl \/ b=gt) (w:=wh) (x:=gl) (.inl rfl) i (vd vn r)
    replace kl:=zBD (i:=i) kl r;replace kt:=kt.moved (UP (V:=fun b=>b=gl) (w:=wh) rfl i (vd vn r)) (fun e=>by have:=OD.out;omega)
    have Dm:=zH (set_lt (i:=i) HL.out HR.out);have HMZ:=zH (ig.out.trans ((Qc HXD.out).trans Ib));clear Ib f2 c2;generalize wh.setCell _ _=we at kl kt HMZ |-;refine Ep rfl ?_;have ct:=kt.cell;have ft:=kt.frozen;go_wp2;have HMY:=zH (HMZ.out.trans (UP (V:=fun b=>b=gl \/ b=gt) (w:=we) (x:=gt) (.inr rfl) 0 (vd vq Jo)))
    have Al:=zH (kl.moved (UP (V:=fun b=>b=gt) (w:=we) rfl 0 (vd vq Jo)) (fun e=>by have:=OD.out;omega))
    have kt':=zH (kt.set_ 0 (vd vq Jo));clear ct ft kl kt;generalize we.setCell _ _=wy at HMY Al kt' |-
    go_roundw
    case rel=>exact ⟨i+1,l'.set i r,Jo,Zb.out,by go_num,by rw [List.length_set];exact Cn.out,Dm,by have:=HA2.out;have:=Hl.out;omega,Al.out,kt'.out,HMY.out⟩
    case measure=>have:=Zb.out;simp [intOf];omega
   ·have d1:¬((0:Int)<m):=by omega
    clear jF cl dm Tj hi ta Sc;go_wp2
    go_roundw
    case rel=>exact ⟨i+1,l',Si,Zb.out,by go_num,Cn.out,HL,by have:=Hl.out;omega,kl,kt,ig.out⟩
    case measure=>have:=Zb.out;simp [intOf];omega
  ·obtain rfl:i=n:=by omega
   have HF:=zH (show Nx28 gl gt p pE i w wr from ⟨l',Si,dm,HL.out,Tj,kl,kt,Sc⟩)
   clear ta hi dm Tj kl kt Sc;go_wp2;exact bodyPost_end (v:=.tuple #[]) (by simp [results,results104,go_sem]) rfl ⟨rfl,HF.out⟩
structure NxS (M:Nat) (bk nn pp:Nat -> Nat) (gt:Nat) (wS:vw) (V:Nat -> Prop) (wr:vw) (ll:Nat -> List Nat) (Si:Nat):Prop where
 l:∀ k,k<M -> Blk wr (bk k) 22 (Oa (ll k)).toArray /\ (ll k).length=nn k /\ ∀ x∈ll k,x<pp k
 a:Blk wr gt 3 #[vd vq Si]
 m:Moved V V wS wr
structure NxF (M:Nat) (bk nn pp:Nat -> Nat) (ga gt:Nat) (wS:vw) (V:Nat -> Prop) (B:Option vy) (m d:Nat) (add:List Nat):Prop where
 inj:∀ i k,i<M -> k<M -> bk i=bk k -> i=k
 ne:∀ k,k<M -> bk k≠gt
 vb:∀ k,k<M -> V (bk k)
 vt:V gt
 va:¬V ga
 ka:Blk wS ga 28 #[ve B m d]
 rd:Hd (fun b=>¬V b) wS fun u=>RWd u [ve B m d] add
 p0:∀ k,k<M -> 0<pp k /\ pp k<18446744073709551616
 n0:∀ k,k<M -> nn k <= 100000
theorem JM {M:Nat} {bk nn pp:Nat -> Nat} {ga gt:Nat} {wS wr:vw} {V:Nat -> Prop} {B:Option vy} {m d:Nat} {add:List Nat} {ll:Nat -> List Nat} {Si:Nat} (h:NxS M bk nn pp gt wS V wr ll Si) (hF:NxF M bk nn pp ga gt wS V B m d add) (Tj:Si <= 1000000) {k:Nat} (hk:k<M) :
  vB prog 104 #[ve (vE ⟨bk k,0,vD⟩) (nn k) (nn k),vd vn (pp k:Int), .pointer (vE ⟨ga,0,vD⟩), .pointer (vE ⟨gt,0,vD⟩)] wr fun e w'=>e=vl (.tuple #[]) /\
   ∃ (l':Nat -> List Nat) (Jo:Nat),Jo <= Si+nn k /\ NxS M bk nn pp gt wS V w' l' Jo:=by
 obtain ⟨h1,h2,h3⟩:=h.l k hk;have hga:bk k≠ga:=fun e=>hF.va (e ▸ hF.vb k hk)
 have hgg:ga≠gt:=fun e=>hF.va (e ▸ hF.vt)
 have hsub:∀ b,b=bk k \/ b=gt -> V b:=fun b hb=>hb.elim (fun e=>e ▸ hF.vb k hk) fun e=>e ▸ hF.vt
 have hc:=zEM (bk k) ga gt (ll k) add B m d Si (pp k) wr h1 (hF.ka.moved h.m hF.va) h.a (NO (Qd hF.rd (Ek h.m fun b hb=>hb)) fun b hb=>⟨fun e=>hb (e ▸ hF.vb k hk),fun e=>hb (e ▸ hF.vt)⟩) h3 (hF.p0 k hk).1 (hF.p0 k hk).2 (by rw [h2];exact hF.n0 k hk) Tj hga (hF.ne k hk) hgg
 rw [h2] at hc;refine hc.mono ?_;rintro e w' ⟨rfl,l',Jo,hl,ta,Ps,kb,kt,hm⟩;refine ⟨rfl,fun i=>if i=k then l' else ll i,Jo,Ps,⟨fun i hi=>?_,kt,h.m.trans ⟨hm.os,hm.tape,hm.output,hm.size,fun b hb hn=>hm.block b hb fun e=>hn (hsub b e),fun b hb=>.inl hb⟩⟩⟩
 by_cases e:i=k
 ·subst e
  rw [Na rfl];exact ⟨kb,hl,ta⟩
 ·rw [ya e]
  obtain ⟨k1,k2,k3⟩:=h.l i hi;exact ⟨k1.moved hm (fun hb=>hb.elim (fun e'=>e (hF.inj i k hi hk e')) fun e'=>hF.ne i hi e'),k2,k3⟩
def ku (f:Nat -> Bool) (q:Nat):Nat -> Bool
 | 0=>true
 | r+1=>f (q-(r+1))&&ku f q r
theorem AY (f:Nat -> Bool) {q i:Nat} (h:i<q):ku f q (q-i)=(f i&&ku f q (q-(i+1))):=by
 rw [show q-i=(q-(i+1))+1 by omega,ku,show q-(q-(i+1)+1)=i by omega]
theorem zBW (f:Nat -> Bool) (q:Nat):ku f q (q-q)=true:=by rw [Nat.sub_self];rfl
theorem zY (f:Nat -> Bool) (q:Nat) (h:∀ i,i<q -> f i=true):∀ r,r <= q -> ku f q r=true
 | 0,_=>rfl
 | r+1,hr=>by
  rw [ku,h _ (by omega),zY f q h r (by omega)]
  rfl
def xp (v:Ha -> Nat -> Bool) (o:Ha -> Nat -> Ha) (q:Nat):Nat -> Ha -> Bool × Ha
 | 0,O=>(true,O)
 | r+1,O=>if v O (q-(r+1)) then xp v o q r (o O (q-(r+1))) else (false,o O (q-(r+1)))
theorem Q6 (v:Ha -> Nat -> Bool) (o:Ha -> Nat -> Ha) {q i:Nat} (h:i<q) (O:Ha):xp v o q (q-i) O=if v O i then xp v o q (q-(i+1)) (o O i) else (false,o O i):=by
 rw [show q-i=(q-(i+1))+1 by omega,xp,show q-(q-(i+1)+1)=i by omega]
theorem zE1 (v:Ha -> Nat -> Bool) (o:Ha -> Nat -> Ha) (q:Nat) (O:Ha):xp v o q (q-q) O=(true,O):=by rw [Nat.sub_self];rfl
theorem P6 {v:Ha -> Nat -> Bool} {o:Ha -> Nat -> Ha} {q:Nat} {Z:Ha} (h:∀ i,i<q -> v Z i=true /\ o Z i=Z):∀ r,r <= q -> xp v o q r Z=(true,Z)
 | 0,_=>rfl
 | r+1,hr=>by
  have h1:=h (q-(r+1)) (by omega)
  rw [xp,Na h1.1,h1.2];exact P6 h r (by omega)
def Mj (O:Ha) (L:Ma) (j pu dg:Nat) (rows:List Ua) (pb:List Nat) (P:se):Bool × Ha :=
 if ei L j P then
  if mG L (Ir L.p rows.length (fj (Jd O L dg pb) L.p P.root).rh (1 :: pb) rows 3) P.code P.linear P.quad then
   if ku (fun i=>BB L (Uh L pu (fj (Jd O L dg pb) L.p P.root).rh rows) (fj (Jd O L dg pb) L.p P.root).al (fj (Jd O L dg pb) L.p P.root).be P.code P.linear P.quad (((Cl (Td (Jd O L dg pb) P.root) (P.code++P.linear++P.quad) L.n L.queries).getD i 0:Nat):Int) (P.cols.getD i [])) L.queries L.queries then
    xp (fun Z i=>Cp Z P.root L.n ((Cl (Td (Jd O L dg pb) P.root) (P.code++P.linear++P.quad) L.n L.queries).getD i 0) (P.salts.getD i 0) (P.cols.getD i []) (P.paths.getD i []))
     (fun Z i=>zp Z P.root L.n ((Cl (Td (Jd O L dg pb) P.root) (P.code++P.linear++P.quad) L.n L.queries).getD i 0) (P.salts.getD i 0) (P.cols.getD i []) (P.paths.getD i [])) L.queries L.queries
     (Hi (Td (Jd O L dg pb) P.root) (P.code++P.linear++P.quad) L.queries)
   else (false,Hi (Td (Jd O L dg pb) P.root) (P.code++P.linear++P.quad) L.queries)
  else (false,Hi (Td (Jd O L dg pb) P.root) (P.code++P.linear++P.quad) L.queries)
 else (false,O)
section
variable {x:PvIn} {O Z:Ha}
theorem PvIn.get_pr (h:x.Good) {i:Nat} (hi:i<x.L.queries):(x.pr O).cols.getD i []=x.cols.getD ((x.pos O).getD i 0) [] /\ (x.pr O).salts.getD i 0=x.l4.getD ((x.pos O).getD i 0) 0 /\ (x.pr O).paths.getD i []=Fi (x.tree O) ((x.pos O).getD i 0) /\ (x.pos O).getD i 0<x.L.n:=by
 have hl:=PvIn.pos_len O h;have hh:i<(x.pos O).length:=by rw [hl];exact hi
 exact ⟨by simp [PvIn.pr,Cb,hh],by simp [PvIn.pr,Cb,hh],by simp [PvIn.pr,Cb,hh],PvIn.pos_lt O h _ (Cv 0 hh)⟩
theorem PvIn.acc (h:x.Good) (ha:Gl (x.t1 O).O) (hm:∀ r∈x.m,∀ y∈r,y<x.L.p) (hZ:Pd (x.oF O) Z) :
  Mj Z x.L x.dd x.pub x.dg x.rows x.pu (x.pr O)=(bD x.L (Ir x.L.p x.rows.length (x.ch O).rh (1 :: x.pu) x.rows 3) (Uh x.L x.pub (x.ch O).rh x.rows) x.m (x.ch O).be,Z):=by
 unfold Mj;have e1:fj (Jd Z x.L x.dg x.pu) x.L.p (x.pr O).root=x.ch O:=PvIn.again_ch O hZ;have e2:Hi (Td (Jd Z x.L x.dg x.pu) (x.pr O).root) ((x.pr O).code++(x.pr O).linear++(x.pr O).quad) x.L.queries=Z:=PvIn.again_o O hZ;have e3:Cl (Td (Jd Z x.L x.dg x.pu) (x.pr O).root) ((x.pr O).code++(x.pr O).linear++(x.pr O).quad) x.L.n x.L.queries=x.pos O:=PvIn.again_pos O hZ;rw [PvIn.valid O h ha,Na rfl,e1,e2,e3,show mG x.L (Ir x.L.p x.rows.length (x.ch O).rh (1 :: x.pu) x.rows 3) (x.pr O).code (x.pr O).linear (x.pr O).quad=_ from PvIn.tests h hm _ _ _ _]
 cases bD x.L (Ir x.L.p x.rows.length (x.ch O).rh (1 :: x.pu) x.rows 3) (Uh x.L x.pub (x.ch O).rh x.rows) x.m (x.ch O).be
 ·rfl
 ·rw [Na rfl,Na (zY _ _ (fun i hi=>?_) _ zR)]
  ·refine P6 (fun i hi=>?_) _ zR
   obtain ⟨g1,g2,g3,g4⟩:=PvIn.get_pr (O:=O) h hi;rw [g1,g2,g3];exact PvIn.opens O h ha hZ g4
  ·obtain ⟨g1,-,-,g4⟩:=PvIn.get_pr (O:=O) h hi
   rw [g1];exact PvIn.fits h _ _ _ g4
end
structure Vc (O:Ha):Prop where
 fair:kL O
 real:O.ideal=false
theorem Fw {O:Ha} (h:Vc O) (lab:Nat) (el:List Nat):Vc (Pc O lab el):=⟨nZ h.fair lab el,by rw [BT];exact h.real⟩
theorem kJ {O:Ha} (h:Vc O) (lab:Nat):∀ qs:List (List Nat),Vc (Vb O lab qs)
 | []=>h
 | q :: qs=>kJ (O:=Pc O lab q) (Fw h lab q) lab qs
theorem YM {O Z:Ha} (h:Vc O) (k:Vc Z) (lab:Nat) (el:List Nat):me Z lab el=me O lab el:=by
 rw [QZ h.fair h.real,QZ k.fair k.real]
theorem OV {O Z:Ha} (h:Vc O) (k:Vc Z) (st ct Kx tag:Nat) (l:List Nat):(Kg ⟨Z,st,ct⟩ tag l).st=(Kg ⟨O,st,Kx⟩ tag l).st /\ Vc (Kg ⟨O,st,Kx⟩ tag l).O /\ Vc (Kg ⟨Z,st,ct⟩ tag l).O :=
 ⟨YM h k _ _,Fw h _ _,Fw k _ _⟩
theorem QV {O Z:Ha} (h:Vc O) (k:Vc Z) (st ct:Nat):Mo ⟨Z,st,ct⟩=Mo ⟨O,st,ct⟩ /\ Vc (uc ⟨O,st,ct⟩).O /\ Vc (uc ⟨Z,st,ct⟩).O:=⟨YM h k _ _,Fw h _ _,Fw k _ _⟩
theorem E8 {O Z:Ha} (h:Vc O) (k:Vc Z) (st ct Kx p root:Nat):fj ⟨Z,st,ct⟩ p root=fj ⟨O,st,Kx⟩ p root /\ (Td ⟨Z,st,ct⟩ root).st=(Td ⟨O,st,Kx⟩ root).st /\ Vc (Td ⟨O,st,Kx⟩ root).O /\ Vc (Td ⟨Z,st,ct⟩ root).O:=by
 obtain ⟨e,h1,k1⟩:=OV h k st ct Kx 2 [root];obtain ⟨a,ha⟩:=zEX (Kg ⟨O,st,Kx⟩ 2 [root]);obtain ⟨b,hb⟩:=zEX (Kg ⟨Z,st,ct⟩ 2 [root]);have ea:a.ct=0:=by rw [ha];rfl
 have eb:b.ct=0:=by rw [hb];rfl
 unfold fj Td;rw [<- ha,<- hb];rw [<- ha,<- hb] at e;rw [<- ha] at h1;rw [<- hb] at k1;clear ha hb;obtain ⟨aO,a1,ac⟩:=a;obtain ⟨bO,b1,bc⟩:=b;simp only at ea eb e h1 k1;subst ea eb e;obtain ⟨v0,h2,k2⟩:=QV h1 k1 b1 0;obtain ⟨v1,h3,k3⟩:=QV h2 k2 b1 1;obtain ⟨v2,h4,k4⟩:=QV h3 k3 b1 2;exact ⟨by rw [v0,show Mo (uc ⟨bO,b1,0⟩)=_ from v1,show Mo (uc (uc ⟨bO,b1,0⟩))=_ from v2];rfl,rfl,h4,k4⟩
theorem zGS {O Z:Ha} (h:Vc O) (k:Vc Z) (st n q:Nat):Br Z st 0 n q=Br O st 0 n q:=by
 unfold Br;rw [uV n q fun i _=>show Mm Z st 0 i=Mm O st 0 i from YM (kJ h 19 _) (kJ k 19 _) _ _]
theorem F8 {O Z:Ha} (h:Vc O) (k:Vc Z) (st ct Kx n q:Nat) (all:List Nat):Cl ⟨Z,st,ct⟩ all n q=Cl ⟨O,st,Kx⟩ all n q /\ Vc (Hi ⟨Z,st,ct⟩ all q):=by
 obtain ⟨e,h1,k1⟩:=OV h k st ct Kx 3 all;unfold Cl Hi;rw [e];exact ⟨zGS h1 k1 _ _ _,kJ k1 19 _⟩
theorem zGQ {O Z:Ha} (h:Vc O) (k:Vc Z) (L:Ma) (dg:Nat) (l:List Nat):(Jd Z L dg l).st=(Jd O L dg l).st /\ Vc (Jd Z L dg l).O /\ Vc (Jd O L dg l).O :=
 ⟨(OV h k 20 0 0 1 _).1,Fw k _ _,Fw h _ _⟩
theorem I8:∀ (path:List Nat) {O Z:Ha} (lab:Nat) (el:List Nat) (i:Nat),Vc O -> Vc Z -> wm path Z lab el i=wm path O lab el i /\ Vc (El path Z lab el i)
 | [],O,Z,lab,el,i,h,k=>by
  have e:Ri Z lab el=Ri O lab el:=by unfold Ri;rw [h.real,k.real,YM h k];rfl
  have f:Vc (Kf Z lab el):=by unfold Kf;rw [k.real];exact Fw k _ _
  exact ⟨e,f⟩
 | p :: r,O,Z,lab,el,i,h,k=>by
  have e:Ri Z lab el=Ri O lab el:=by unfold Ri;rw [h.real,k.real,YM h k];rfl
  have f:Vc (Kf Z lab el):=by unfold Kf;rw [k.real];exact Fw k _ _
  have g:Vc (Kf O lab el):=by unfold Kf;rw [h.real];exact Fw h _ _
  unfold wm El;rw [e];cases Ri O lab el with
  | none=>exact ⟨rfl,f⟩
  | some a=>exact I8 r 17 _ _ g f
theorem G8 {O Z:Ha} (h:Vc O) (k:Vc Z) (root n i oc:Nat) (leaf path:List Nat):Cp Z root n i oc leaf path=Cp O root n i oc leaf path /\ Vc (zp Z root n i oc leaf path):=by
 have:=I8 path 16 (oc :: leaf) i h k;unfold Cp zp;rw [this.1];refine ⟨rfl,?_⟩;split
 ·exact this.2
 ·exact k
theorem D8 (root n:Nat) (zs sa:Nat -> Nat) (cs ps:Nat -> List Nat) (q:Nat):∀ (r:Nat) {O Z:Ha},Vc O -> Vc Z ->
  (xp (fun Z i=>Cp Z root n (zs i) (sa i) (cs i) (ps i)) (fun Z i=>zp Z root n (zs i) (sa i) (cs i) (ps i)) q r Z).1=(xp (fun Z i=>Cp Z root n (zs i) (sa i) (cs i) (ps i)) (fun Z i=>zp Z root n (zs i) (sa i) (cs i) (ps i)) q r O).1 /\
   Vc (xp (fun Z i=>Cp Z root n (zs i) (sa i) (cs i) (ps i)) (fun Z i=>zp Z root n (zs i) (sa i) (cs i) (ps i)) q r Z).2
 | 0,_,_,_,k=>⟨rfl,k⟩
 | r+1,O,Z,h,k=>by
  have e:=G8 h k root n (zs (q-(r+1))) (sa (q-(r+1))) (cs (q-(r+1))) (ps (q-(r+1)));have f:=G8 h h root n (zs (q-(r+1))) (sa (q-(r+1))) (cs (q-(r+1))) (ps (q-(r+1)));unfold xp;simp only [e.1];cases Cp O root n (zs (q-(r+1))) (sa (q-(r+1))) (cs (q-(r+1))) (ps (q-(r+1)))
  ·exact ⟨rfl,e.2⟩
  ·exact D8 root n zs sa cs ps q r f.2 e.2
theorem zA6 {O Z:Ha} (h:Vc O) (k:Vc Z) (L:Ma) (j pu dg:Nat) (rows:List Ua) (pb:List Nat) (P:se):(Mj Z L j pu dg rows pb P).1=(Mj O L j pu dg rows pb P).1 /\ Vc (Mj Z L j pu dg rows pb P).2:=by
 obtain ⟨e1,k1,h1⟩:=zGQ h k L dg pb;obtain ⟨fO,hfO⟩:=zEX (Jd O L dg pb);obtain ⟨fZ,hfZ⟩:=zEX (Jd Z L dg pb);unfold Mj;rw [<- hfO,<- hfZ];rw [<- hfO,<- hfZ] at e1;rw [<- hfZ] at k1;rw [<- hfO] at h1;clear hfO hfZ;obtain ⟨O1,s1,t1⟩:=fO;obtain ⟨Z1,s2,t2⟩:=fZ;simp only at e1 k1 h1;subst e1;obtain ⟨e2,e3,h2,k2⟩:=E8 h1 k1 s2 t2 t1 L.p P.root;rw [e2];obtain ⟨gO,hgO⟩:=zEX (Td ⟨O1,s2,t1⟩ P.root);obtain ⟨gZ,hgZ⟩:=zEX (Td ⟨Z1,s2,t2⟩ P.root);rw [<- hgO,<- hgZ];rw [<- hgO,<- hgZ] at e3;rw [<- hgO] at h2;rw [<- hgZ] at k2;clear hgO hgZ;obtain ⟨O2,s3,t3⟩:=gO;obtain ⟨Z2,s4,t4⟩:=gZ;simp only at e3 h2 k2;subst e3;have e4:=F8 h2 k2 s4 t4 t3 L.n L.queries (P.code++P.linear++P.quad);have e5:=F8 h2 h2 s4 t3 t3 L.n L.queries (P.code++P.linear++P.quad);rw [e4.1];split
 ·split
  ·split
   ·exact D8 _ _ _ _ _ _ _ _ e5.2 e4.2
   ·exact ⟨rfl,e4.2⟩
  ·exact ⟨rfl,e4.2⟩
 ·exact ⟨rfl,k⟩
theorem C8:∀ (d:Nat) {O:Ha} (l:List Nat),Vc O -> Vc (Jw d O l)
 | 0,_,_,h=>h
 | d+1,_,l,h=>C8 d _ (kJ h 17 (Md l))
theorem PvIn.acc_real {x:PvIn} {O Z:Ha} (h:x.Good) (ha:Gl (x.t1 O).O) (hm:∀ r∈x.m,∀ y∈r,y<x.L.p) (hO:Vc O) (hZ:Vc Z) :
  (Mj Z x.L x.dd x.pub x.dg x.rows x.pu (x.pr O)).1=bD x.L (Ir x.L.p x.rows.length (x.ch O).rh (1 :: x.pu) x.rows 3) (Uh x.L x.pub (x.ch O).rh x.rows) x.m (x.ch O).be /\ Vc (Mj Z x.L x.dd x.pub x.dg x.rows x.pu (x.pr O)).2:=by
 have hf:Vc (x.oF O):=by
  have h1:Vc (x.t1 O).O:=Fw hO _ _;have h2:Vc (x.o2 O):=C8 _ _ (kJ h1 _ _);have h3:Vc (x.t2 O).O:=(E8 h2 h2 (x.t1 O).st 0 0 0 (x.root O)).2.2.1;exact kJ (Fw h3 _ _) _ _
 have e:=zA6 hf hZ x.L x.dd x.pub x.dg x.rows x.pu (x.pr O);rw [PvIn.acc h ha hm (fun _ _ _ h=>h)] at e
 exact e
structure CoR where
 r:List (List Nat)
 l1:List Nat
 l2:List Nat
 l3:List Nat
 l4:List Nat
def CoR.ok (C:CoR) (L:Ma):Bool:=Jx L C.r C.l1 C.l2 C.l3 C.l4
structure CoS where
 A0:Option vy
 n0:Nat
 c0:Nat
 A1:Option vy
 n1:Nat
 c1:Nat
 A2:Option vy
 n2:Nat
 c2:Nat
 A3:Option vy
 n3:Nat
 c3:Nat
 A4:Option vy
 n4:Nat
 c4:Nat
def coCs (S:CoS):Array vx:=#[ve S.A0 S.n0 S.c0,ve S.A1 S.n1 S.c1,ve S.A2 S.n2 S.c2,ve S.A3 S.n3 S.c3,ve S.A4 S.n4 S.c4]
structure sN (w:vw) (C:CoR) (S:CoS):Prop where
 r:Jg w [ve S.A0 S.n0 S.c0] C.r
 l1:RWd w [ve S.A1 S.n1 S.c1] C.l1
 l2:RWd w [ve S.A2 S.n2 S.c2] C.l2
 l3:RWd w [ve S.A3 S.n3 S.c3] C.l3
 l4:RWd w [ve S.A4 S.n4 S.c4] C.l4
def yh (L:Ma) (j pu:Nat) (vars:Int) (rows:List Ua) (ws:List Nat) (C:CoR):PvIn :=
 ⟨L,j,pu,Cf L.p (pu:Int) vars rows,rows,ws,dk L rows ws pu,C.r,C.l1,C.l2,C.l3,C.l4⟩
theorem EV (L:Ma) (j pu:Nat) (vars:Int) (rows:List Ua) (ws:List Nat) (C:CoR) (hL:Lb L) (hn:L.n=2^j) (hC:C.ok L=true):(yh L j pu vars rows ws C).Good:=by
 obtain ⟨ey,To,td,Of,Vi⟩:=cO hC;exact ⟨hL,hn,JK hn hL.n2,⟨RU _ _ _ _,ey.trans (RU _ _ _ _).symm,fun _ h=>I5 h,fun r h=>(To r h).1⟩,td,Of,Vi,yY hC⟩
theorem zFD {w:vw} {g:Nat} {O:Ha} {F K:Nat -> Prop} (h:OrcAt w g O F) (L:Ma) (j pu:Nat) (C:CoR) (S:CoS) (vars:Int) (A B:Option vy) (n c m d:Nat) (rows:List Ua) (ws:List Nat) (bl bw qs:Int)
  (hL:Lb L) (hn:L.n=2^j) (oe:mi L ⟨L.p,(pu:Int),vars,rows.length,bl,bw,qs⟩) (ht:L.a+3*L.b <= 40) (hT:Vu L.p (pu:Int) vars rows ws true) (hC:C.ok L=true)
  (hA:Hd K w fun u=>RSl 3 Ud u [ve A n c] rows /\ RWd u [ve B m d] ws /\ sN u C S) (hK:∀ b,K b -> b<w.1.size /\ ¬F b) (hO:pc O 1000) :
  vB prog 17 #[.pointer (vE ⟨g,0,vD⟩),Tb L.p (pu:Int) vars (ve A n c),vf #[vd vq bl,vd vq bw,vd vq qs],ve B m d,vf (coCs S)] w fun e w' =>
   ∃ (S':PS) (F':Nat -> Prop),e=vl (.tuple #[vf (Od ((yh L j pu vars rows ws C).pr O) S'),vd vq 0]) /\ OrcAt w' g ((yh L j pu vars rows ws C).oF O) F' /\ Moved F F' w w' /\ Hd (fun b=>w.1.size <= b /\ b<w'.1.size /\ ¬F' b) w' (fun u=>gh u ((yh L j pu vars rows ws C).pr O) S'):=by
 obtain ⟨Pk,Vn,nm⟩:=IJ hT.asg;exact zFC h (yh L j pu vars rows ws C) vars A B S.A0 S.A1 S.A2 S.A3 S.A4 n c m d S.n0 S.c0 S.n1 S.c1 S.n2 S.c2 S.n3 S.c3 S.n4 S.c4 bl bw qs hL oe hn (JK hn hL.n2) hT.tab (ZQ hT.tab oe) (SW hT.tab) (EY hT.tab hT.small) rfl rfl _ hA hK (fun u a=>a.1) (fun u a=>a.2.1) (fun u a=>a.2.2.r) (fun u a=>a.2.2.l1) (fun u a=>a.2.2.l2) (fun u a=>a.2.2.l3) (fun u a=>a.2.2.l4) Pk Vn nm hT.sat hC hO (by show L.a+L.b+L.b+L.b <= 1000;omega)
section
variable {L:Ma} {j pu:Nat} {C:CoR} {vars:Int} {rows:List Ua} {ws:List Nat} {bl bw qs:Int} {O Z:Ha} {k:Nat}
theorem O7 (hL:Lb L) (oe:mi L ⟨L.p,(pu:Int),vars,rows.length,bl,bw,qs⟩) (hT:Vu L.p (pu:Int) vars rows ws true) (rh be:Nat) :
  bD L (Ir L.p rows.length rh (1 :: (ws.drop 1).take pu) rows 3) (Uh L pu rh rows) (dk L rows ws pu) be=true:=by
 obtain ⟨Pk,Vn,nm⟩:=IJ hT.asg;have hv:(pu:Int)<vars:=oe.vars;have cA:ws.take (1+pu)=1 :: (ws.drop 1).take pu:=by
  cases ws with
  | nil=>simp at Pk;omega
  | cons a r =>
   have e:a=1:=Vn;subst e;rw [Nat.add_comm,List.take_succ_cons]
   rfl
 exact zHj hL (ZQ hT.tab oe) (SW hT.tab) Pk cA (zHl hT.sat) be
theorem J5 (hL:Lb L) (hT:Vu L.p (pu:Int) vars rows ws true):∀ r∈dk L rows ws pu,∀ y∈r,y<L.p:=by
 obtain ⟨-,-,nm⟩:=IJ hT.asg;exact zEA (by have:=Pb hL.p;omega) fun y hy=>of_decide_eq_true (fe.1 nm y hy)
theorem wX (hL:Lb L) (hn:L.n=2^j) (oe:mi L ⟨L.p,(pu:Int),vars,rows.length,bl,bw,qs⟩) (hT:Vu L.p (pu:Int) vars rows ws true) (hC:C.ok L=true) (hO:du O k) (hZ:Pd ((yh L j pu vars rows ws C).oF O) Z) :
  Mj Z L j pu (Cf L.p (pu:Int) vars rows) rows ((ws.drop 1).take pu) ((yh L j pu vars rows ws C).pr O)=(true,Z):=by
 have h:=PvIn.acc (x:=yh L j pu vars rows ws C) (O:=O) (Z:=Z) (EV L j pu vars rows ws C hL hn hC) (JW hO _ _ _).o.ans (J5 hL hT) hZ;exact h.trans (congrArg (fun b=>(b,Z)) (O7 hL oe hT _ _))
theorem real_x (hL:Lb L) (hn:L.n=2^j) (oe:mi L ⟨L.p,(pu:Int),vars,rows.length,bl,bw,qs⟩) (hT:Vu L.p (pu:Int) vars rows ws true) (hC:C.ok L=true) (hO:du O k) (hR:Vc O) (hZ:Vc Z) :
  (Mj Z L j pu (Cf L.p (pu:Int) vars rows) rows ((ws.drop 1).take pu) ((yh L j pu vars rows ws C).pr O)).1=true :=
 (PvIn.acc_real (x:=yh L j pu vars rows ws C) (O:=O) (Z:=Z) (EV L j pu vars rows ws C hL hn hC) (JW hO _ _ _).o.ans (J5 hL hT) hR hZ).1.trans (O7 hL oe hT _ _)
theorem zIc (hL:Lb L) (hn:L.n=2^j) (hC:C.ok L=true) (hO:du O k):ei L j ((yh L j pu vars rows ws C).pr O)=true :=
 PvIn.valid O (EV L j pu vars rows ws C hL hn hC) (JW hO _ _ _).o.ans
end
def Ko (T:Nat) (f:Nat -> Nat) (g1 g2 g3 g4 k:Nat):Nat:=if k<T then f k else if k=T then g1 else if k=T+1 then g2 else if k=T+2 then g3 else g4
def ur (L:Ma) (T k:Nat):Nat:=if k<T then L.queries else if k=T then L.k else if k=T+1 then L.k+L.block-2 else if k=T+2 then L.block+2*L.queries-1 else L.n
def gD (L:Ma) (T k:Nat):Nat:=if k<T+3 then L.p else zb
theorem qE {T k:Nat} {f:Nat -> Nat} {g1 g2 g3 g4:Nat} (h:k<T):Ko T f g1 g2 g3 g4 k=f k:=Na h
theorem fH {T:Nat} {f:Nat -> Nat} {g1 g2 g3 g4:Nat}:Ko T f g1 g2 g3 g4 T=g1:=by unfold Ko;rw [ya (by omega),Na rfl]
theorem gH {T:Nat} {f:Nat -> Nat} {g1 g2 g3 g4:Nat}:Ko T f g1 g2 g3 g4 (T+1)=g2:=by unfold Ko;rw [ya (by omega),ya (by omega),Na rfl]
theorem iH {T:Nat} {f:Nat -> Nat} {g1 g2 g3 g4:Nat}:Ko T f g1 g2 g3 g4 (T+2)=g3:=by unfold Ko;rw [ya (by omega),ya (by omega),ya (by omega),Na rfl]
theorem jH {T:Nat} {f:Nat -> Nat} {g1 g2 g3 g4:Nat}:Ko T f g1 g2 g3 g4 (T+3)=g4:=by unfold Ko;rw [ya (by omega),ya (by omega),ya (by omega),ya (by omega)]
theorem IM {L:Ma} {T k:Nat} (h:k<T):ur L T k=L.queries:=Na h
theorem aQ {L:Ma} {T:Nat}:ur L T T=L.k:=by unfold ur;rw [ya (by omega),Na rfl]
theorem bQ {L:Ma} {T:Nat}:ur L T (T+1)=L.k+L.block-2:=by unfold ur;rw [ya (by omega),ya (by omega),Na rfl]
theorem cQ {L:Ma} {T:Nat}:ur L T (T+2)=L.block+2*L.queries-1:=by unfold ur;rw [ya (by omega),ya (by omega),ya (by omega),Na rfl]
theorem dQ {L:Ma} {T:Nat}:ur L T (T+3)=L.n:=by unfold ur;rw [ya (by omega),ya (by omega),ya (by omega),ya (by omega)]
theorem qq {L:Ma} {T k:Nat} (h:k<T+3):gD L T k=L.p:=Na h
theorem uQ {L:Ma} {T:Nat}:gD L T (T+3)=zb:=ya (by omega)
theorem ML {l:List Nat} {n p:Nat} (hl:l.length=n) (h:∀ x∈l,x<p):tj l n p=true:=by
 unfold tj;rw [mc];exact ⟨by simp [hl],fe.2 fun x hx=>tb (h x hx)⟩
theorem YK {T k:Nat} (h:k<T+4):k<T \/ k=T \/ k=T+1 \/ k=T+2 \/ k=T+3:=by omega
def qH (T:Nat) (ll:Nat -> List Nat):CoR:=⟨(List.range T).map ll,ll T,ll (T+1),ll (T+2),ll (T+3)⟩
theorem coX_ok {L:Ma} {ll:Nat -> List Nat} (h:∀ k,k<L.a+L.b+L.b+L.b+4 -> (ll k).length=ur L (L.a+L.b+L.b+L.b) k /\ ∀ x∈ll k,x<gD L (L.a+L.b+L.b+L.b) k):(qH (L.a+L.b+L.b+L.b) ll).ok L=true:=by
 generalize hT:L.a+L.b+L.b+L.b=T at h;have h1:=h T (by omega)
 have h2:=h (T+1) (by omega)
 have h3:=h (T+2) (by omega)
 have h4:=h (T+3) (by omega)
 rw [aQ,qq (by omega)] at h1
 rw [bQ,qq (by omega)] at h2
 rw [cQ,qq (by omega)] at h3
 rw [dQ,uQ] at h4;unfold CoR.ok Jx qH;simp only [mc];refine ⟨by simp [hT],fe.2 fun r hr=>?_,ML h1.1 h1.2,ML h2.1 h2.2,ML h3.1 h3.2,ML h4.1 h4.2⟩
 obtain ⟨k,hk,rfl⟩:=Ed.1 hr;have fF:=Oi.1 hk;have h0:=h k (by omega)
 rw [IM fF,qq (by omega)] at h0
 exact ML h0.1 h0.2
theorem coX_in {L:Ma} {u:vw} {cs:Array vx} {g0 g1 g2 g3 g4:Nat} {f:Nat -> Nat} {ll:Nat -> List Nat} (hL:Lb L) (ht:L.a+3*L.b <= 40) (k0:Blk u g0 28 cs)
  (hc:∀ k,k<L.a+L.b+L.b+L.b -> cs[k]?=vE (ve (vE ⟨f k,0,vD⟩) L.queries L.queries))
  (h:∀ k,k<L.a+L.b+L.b+L.b+4 -> Blk u (Ko (L.a+L.b+L.b+L.b) f g1 g2 g3 g4 k) 22 (Oa (ll k)).toArray /\ (ll k).length=ur L (L.a+L.b+L.b+L.b) k /\ ∀ x∈ll k,x<gD L (L.a+L.b+L.b+L.b) k) :
  sN u (qH (L.a+L.b+L.b+L.b) ll) ⟨vE ⟨g0,0,vD⟩,L.a+L.b+L.b+L.b,L.a+L.b+L.b+L.b,vE ⟨g1,0,vD⟩,L.k,L.k,vE ⟨g2,0,vD⟩,L.k+L.block-2,L.k+L.block-2,vE ⟨g3,0,vD⟩,L.block+2*L.queries-1,L.block+2*L.queries-1,vE ⟨g4,0,vD⟩,L.n,L.n⟩:=by
 have Ze:=Pb hL.p;have Eu:=hL.q2;have b2:=hL.b2;have b5:=hL.k;have b6:=hL.n2;have hm:∀ m,m <= 65536 -> m <= maxLen:=fun m h=>by simp [maxLen];omega
 have hbg:zb<18446744073709551616:=by decide
 generalize hT:L.a+L.b+L.b+L.b=T at h hc |-;have h1:=h T (by omega)
 have h2:=h (T+1) (by omega)
 have h3:=h (T+2) (by omega)
 have h4:=h (T+3) (by omega)
 rw [fH,aQ,qq (by omega)] at h1
 rw [gH,bQ,qq (by omega)] at h2
 rw [iH,cQ,qq (by omega)] at h3
 rw [jH,dQ,uQ] at h4;have h64:∀ {l:List Nat},(∀ x∈l,x<L.p) -> ∀ x∈l,x<18446744073709551616:=fun h x hx=>il (h x hx) Ze.2
 have m0:T <= maxLen:=hm _ (by omega)
 have m1:L.k <= maxLen:=hm _ (by omega)
 have m2:L.k+L.block-2 <= maxLen:=hm _ (by omega)
 have m3:L.block+2*L.queries-1 <= maxLen:=hm _ (by omega)
 have m4:L.n <= maxLen:=hm _ (by omega)
 have m5:L.queries <= maxLen:=hm _ (by omega)
 refine ⟨uT (N:=0) (gb:=vD) (fun k (hk:k<T)=>?_) k0 m0,XI h1.1 h1.2.1 (h64 h1.2.2) m1,XI h2.1 h2.2.1 (h64 h2.2.2) m2,XI h3.1 h3.2.1 (h64 h3.2.2) m3,XI h4.1 h4.2.1 (fun x hx=>il (h4.2.2 x hx) hbg) m4⟩
 have h0:=h k (by omega)
 rw [qE hk,IM hk,qq (by omega)] at h0
 exact ⟨_,hc k hk,eW h0.1 h0.2.1 (h64 h0.2.2) m5 (Mb _) (fun e=>by cases e)⟩
theorem CoB.below {N:Nat} {w u:vw} {q:Nat} {cs:Array vx} {n:Nat} {r:Nat -> List Nat} {l1 l2 l3 l4:List Nat} {g0 g1 g2 g3 g4 NF:Nat} {f:Nat -> Nat} (h:CoB N w q cs n r l1 l2 l3 l4 g0 g1 g2 g3 g4 NF f) (hb:vA w.1.size w u):CoB N u q cs n r l1 l2 l3 l4 g0 g1 g2 g3 g4 NF f :=
 ⟨h.k0.below hb h.k0.lt,h.k1.below hb h.k1.lt,h.k2.below hb h.k2.lt,h.k3.below hb h.k3.lt,h.k4.below hb h.k4.lt,h.kr.keep fun b _ hl=>hb.block b hl,h.ge,h.lt,h.nd⟩
def llX (T:Nat) (r:Nat -> List Nat) (l1 l2 l3 l4:List Nat) (k:Nat):List Nat:=if k<T then r k else if k=T then l1 else if k=T+1 then l2 else if k=T+2 then l3 else l4
theorem zBU {L:Ma} {N coin:Nat} {w:vw} {cs:Array vx} {g0 g1 g2 g3 g4 NF gt:Nat} {f:Nat -> Nat} {V:Nat -> Prop} (hL:Lb L)
  (h:CoB N w L.queries cs (L.a+L.b+L.b+L.b) (fun k=>re L.p coin [0,k] L.queries) (re L.p coin [1] L.k) (re L.p coin [2] (L.k+L.block-2)) (re L.p coin [3] (L.block+2*L.queries-1)) (re zb coin [4] L.n) g0 g1 g2 g3 g4 NF f) (kt:Blk w gt 3 #[vd vq ((0:Nat):Int)]) :
  ∃ ll,NxS (L.a+L.b+L.b+L.b+4) (Ko (L.a+L.b+L.b+L.b) f g1 g2 g3 g4) (ur L (L.a+L.b+L.b+L.b)) (gD L (L.a+L.b+L.b+L.b)) gt w V w ll 0:=by
 have zg:0<L.p:=by have:=Pb hL.p;omega
 have hv:∀ p r m,0<p -> (re p coin r m).length=m /\ ∀ x∈re p coin r m,x<p:=fun p r m hp=>⟨by simp [re],fun x hx=>by
  obtain ⟨k,_,rfl⟩:=Ed.1 hx;exact ic _ hp⟩
 generalize L.a+L.b+L.b+L.b=T at h |-;refine ⟨llX T (fun k=>re L.p coin [0,k] L.queries) (re L.p coin [1] L.k) (re L.p coin [2] (L.k+L.block-2)) (re L.p coin [3] (L.block+2*L.queries-1)) (re zb coin [4] L.n),⟨fun k hk=>?_,kt,Moved.refl⟩⟩
 rcases YK hk with e | rfl | rfl | rfl | rfl
 ·rw [qE e,IM e,qq (by omega),show llX T _ _ _ _ _ k=_ from Na e]
  exact ⟨(h.kr.at_ k e).2.1,hv _ _ _ zg⟩
 ·rw [fH,aQ,qq (by omega),show llX k _ _ _ _ _ k=_ from (ya (by omega)).trans (Na rfl)]
  exact ⟨h.k1,hv _ _ _ zg⟩
 ·rw [gH,bQ,qq (by omega),show llX T _ _ _ _ _ (T+1)=_ from (ya (by omega)).trans ((ya (by omega)).trans (Na rfl))]
  exact ⟨h.k2,hv _ _ _ zg⟩
 ·rw [iH,cQ,qq (by omega),show llX T _ _ _ _ _ (T+2)=_ from (ya (by omega)).trans ((ya (by omega)).trans ((ya (by omega)).trans (Na rfl)))]
  exact ⟨h.k3,hv _ _ _ zg⟩
 ·rw [jH,dQ,uQ,show llX T _ _ _ _ _ (T+3)=_ from (ya (by omega)).trans ((ya (by omega)).trans ((ya (by omega)).trans (ya (by omega))))]
  exact ⟨h.k4,hv _ _ _ (by decide)⟩
theorem cob_lt {N:Nat} {w:vw} {q:Nat} {cs:Array vx} {T:Nat} {r:Nat -> List Nat} {l1 l2 l3 l4:List Nat} {g0 g1 g2 g3 g4 NF:Nat} {f:Nat -> Nat} (h:CoB N w q cs T r l1 l2 l3 l4 g0 g1 g2 g3 g4 NF f) {k:Nat} (hk:k<T+4) :
  N <= Ko T f g1 g2 g3 g4 k /\ Ko T f g1 g2 g3 g4 k<w.1.size /\ Ko T f g1 g2 g3 g4 k≠g0:=by
 have a:=h.ge;have b:=h.lt;have c1:=h.k1.lt;have c2:=h.k2.lt;have c3:=h.k3.lt;have c4:=h.k4.lt;have nd:=h.nd;simp only [List.nodup_cons,Dh,List.not_mem_nil,or_false,not_or,not_false_eq_true,List.nodup_nil,and_true] at nd;rcases YK hk with e | rfl | rfl | rfl | rfl
 ·rw [qE e]
  have:=h.kr.at_ k e;have:=this.2.1.lt;omega
 ·rw [fH];omega
 ·rw [gH];omega
 ·rw [iH];omega
 ·rw [jH];omega
theorem zBT {N:Nat} {w:vw} {q:Nat} {cs:Array vx} {T:Nat} {r:Nat -> List Nat} {l1 l2 l3 l4:List Nat} {g0 g1 g2 g3 g4 NF:Nat} {f:Nat -> Nat} (h:CoB N w q cs T r l1 l2 l3 l4 g0 g1 g2 g3 g4 NF f):∀ i k,i<T+4 -> k<T+4 -> Ko T f g1 g2 g3 g4 i=Ko T f g1 g2 g3 g4 k -> i=k:=by
 have b:=h.lt;have nd:=h.nd;simp only [List.nodup_cons,Dh,List.not_mem_nil,or_false,not_or,not_false_eq_true,List.nodup_nil,and_true] at nd;have hf:∀ k,k<T -> NF <= f k:=fun k hk=>(h.kr.at_ k hk).2.2
 intro i k hi hk e;by_cases h1:i<T <;> by_cases h2:k<T
 ·rw [qE h1,qE h2] at e
  rcases Nat.lt_trichotomy i k with x | x | x
  ·have:=h.kr.lt i k x h2;omega
  ·exact x
  ·have:=h.kr.lt k i x h1;omega
 ·rw [qE h1] at e
  have:=hf i h1;rcases YK hk with x | rfl | rfl | rfl | rfl
  ·exact absurd x h2
  ·rw [fH] at e;omega
  ·rw [gH] at e;omega
  ·rw [iH] at e;omega
  ·rw [jH] at e;omega
 ·rw [qE h2] at e
  have:=hf k h2;rcases YK hi with x | rfl | rfl | rfl | rfl
  ·exact absurd x h1
  ·rw [fH] at e;omega
  ·rw [gH] at e;omega
  ·rw [iH] at e;omega
  ·rw [jH] at e;omega
 ·rcases YK hi with x | rfl | rfl | rfl | rfl
  ·exact absurd x h1
  all_goals
   rcases YK hk with x | x | x | x | x
   ·exact absurd x h2
   all_goals
    first
    | (subst x;rfl)
    | (exfalso;rw [x] at e;simp only [fH,gH,iH,jH] at e;omega)
theorem nnX_le {L:Ma} (hL:Lb L) {T k:Nat}:ur L T k <= 2000:=by
 have:=hL.q2;have:=hL.b2;have:=hL.k;have:=hL.n2;unfold ur;split
 ·omega
 ·split
  ·omega
  ·split
   ·omega
   ·split <;> omega
theorem ppX_lt {L:Ma} (hL:Lb L) {T k:Nat}:0<gD L T k /\ gD L T k<18446744073709551616:=by
 have:=Pb hL.p;unfold gD;split
 ·omega
 ·decide
theorem W9 {w:vw} {g:Nat} {t:vz} {y0 y1 y2 y3 y4 y5 y6 y7 y8 y9 Xd:vx} (k:Blk w g t #[y0,y1,y2,y3,y4,y5,y6,y7,y8,y9,Xd]) (x0 x1 x2 x3 x4 x5 x6 x7 x8 x9 mo:vx):∃ wf,(((((((((((w).setCell ⟨g,0,vD⟩ x0).setCell ⟨g,1,vD⟩ x1).setCell ⟨g,2,vD⟩ x2).setCell ⟨g,3,vD⟩ x3).setCell ⟨g,4,vD⟩ x4).setCell ⟨g,5,vD⟩ x5).setCell ⟨g,6,vD⟩ x6).setCell ⟨g,7,vD⟩ x7).setCell ⟨g,8,vD⟩ x8).setCell ⟨g,9,vD⟩ x9).setCell ⟨g,10,vD⟩ mo=wf /\ Blk wf g t #[x0,x1,x2,x3,x4,x5,x6,x7,x8,x9,mo] /\ StB g w wf :=
 ⟨_,rfl,dG [x0,x1,x2,x3,x4,x5,x6,x7,x8,x9,mo] k rfl,rW g [x0,x1,x2,x3,x4,x5,x6,x7,x8,x9,mo] w⟩
theorem StB.fromF {g N:Nat} {V:Nat -> Prop} {w wf:vw} (h:StB g w wf) (hg:V g):Ji V N w wf:=⟨h.os,h.tape,h.output,Nat.le_of_eq h.size.symm,fun b _ hn=>h.far b fun e=>hn (e ▸ hg)⟩
theorem Moved.st {g:Nat} {F F':Nat -> Prop} {w0 w wf:vw} (m:Moved F F' w0 w) (h:StB g w wf) (hg:w0.1.size <= g):Moved F F' w0 wf :=
 ⟨h.os.trans m.os,h.tape.trans m.tape,h.output.trans m.output,xb m.size (Nat.le_of_eq h.size.symm),fun b hb hn=>(h.far b (by omega)).trans (m.block b hb hn),m.foot⟩
theorem StB.orc {g gb:Nat} {F:Nat -> Prop} {O:Ha} {w wf:vw} (h:StB g w wf) (k:OrcAt w gb O F) (hg:¬F g):OrcAt wf gb O F:=k.keep (Nat.le_of_eq h.size.symm) fun b hb=>h.far b fun e=>hg (e ▸ hb)
theorem X7 {w:vw} {g:Nat} {O:Ha} {F K:Nat -> Prop} (h:OrcAt w g O F) (L:Ma) (j pu coin:Nat) (vars bl bw qs:Int) (A B D:Option vy) (n c m d mD dD:Nat) (rows:List Ua) (ws add:List Nat) (real:Bool) (pd:Nat)
  (hL:Lb L) (hn:L.n=2^j) (oe:mi L ⟨L.p,(pu:Int),vars,rows.length,bl,bw,qs⟩) (ht:L.a+3*L.b <= 40) (hT:Vu L.p (pu:Int) vars rows ws true) (eM:coin<18446744073709551616)
  (hA:Hd K w fun u=>RSl 3 Ud u [ve A n c] rows /\ RWd u [ve B m d] ws /\ RWd u [ve D mD dD] add) (hK:∀ b,K b -> b<w.1.size /\ ¬F b) (hO:pc O 1000) :
  vB prog 45 #[.pointer (vE ⟨g,0,vD⟩),vf (mH L.p (pu:Int) vars A B n c m d bl bw qs (coin:Int) real pd),ve D mD dD] w fun e w' =>
   ∃ (C:CoR) (S:PS) (F':Nat -> Prop),C.ok L=true /\ e=vl (.tuple #[vf (jb L),vf (Od ((yh L j pu vars rows ws C).pr O) S), .bool true]) /\ OrcAt w' g ((yh L j pu vars rows ws C).oF O) F' /\ Moved F F' w w' /\
    Hd (fun b=>w.1.size <= b /\ b<w'.1.size /\ ¬F' b) w' (fun u=>gh u ((yh L j pu vars rows ws C).pr O) S):=by
 obtain ⟨kc,ka,kr,kz,da,-⟩:=BL w 32 28 101 46 (mH L.p (pu:Int) vars A B n c m d bl bw qs (coin:Int) real pd) #[ve D mD dD] #[vd vn 0,vd vq 0,vd vq 0,vd vq 0,vd vq 0,vd vq 0,vd vq 0,vd vq 0,vd vq 0,vd vq 0,vd vq 0] #[vd vn 0,ve vD 0 0,ve vD 0 0,ve vD 0 0,ve vD 0 0,ve vD 0 0,ve vD 0 0];have hz:=YP hT.tab oe;have HN:=zH (fun w' (hb:vA w.1.size w w')=>(jV L.p (pu:Int) vars A n c rows bl bw qs w' (Bi hA (Af hb)).1).mono (R':=fun e Dl=>e=vl (.tuple #[vf (jb L),vd vq 0]) /\ vA w'.1.size w' Dl) (by
  rintro e Dl ⟨⟨lcs,rfl,hp⟩,Ba⟩;rw [hz] at hp;rcases hp with ⟨Ta,-⟩ | ⟨-,-,L',-,hf',rfl⟩
  ·exact absurd rfl Ta
  ·rw [hz,show L'=L from hf'.eq.trans oe.eq.symm]
   exact ⟨rfl,Ba⟩))
 have HFS:=zH (fun u=>zEi L coin u hL eM)
 have Fm:=zH (fun (N:Nat) (u:vw) (cs:Array vx) (g0 g1 g2 g3 g4 NF gt:Nat) (f:Nat -> Nat) (V:Nat -> Prop)=>zBU (L:=L) (coin:=coin) (N:=N) (w:=u) (cs:=cs) (g0:=g0) (g1:=g1) (g2:=g2) (g3:=g3) (g4:=g4) (NF:=NF) (gt:=gt) (f:=f) (V:=V) hL)
 have ki:=zH (fun (C:CoR) (S:CoS) (hC:C.ok L=true) (u:vw) (hb:vA w.1.size w u) (yj:Hd (fun b=>w.1.size <= b /\ b<u.1.size) u fun u=>sN u C S)=>zFD (K:=fun b=>K b \/ (w.1.size <= b /\ b<u.1.size)) (h.below hb) L j pu C S vars A B n c m d rows ws bl bw qs hL hn oe ht hT hC
  (fun x a=>by
   have h1:=Bi hA (uB (Af hb) (Tl a fun b hb=>.inl hb))
   exact ⟨h1.1,h1.2.1,yj x (Tl a fun b hb=>.inr hb)⟩)
  (fun b hk=>hk.elim (fun hk=>⟨Kc (hK b hk).1 hb.size,(hK b hk).2⟩) fun hk=>⟨hk.2,fun e=>by have:=h.lt b e;omega⟩) hO)
 have HCi:=zH (fun (u:vw) (cs:Array vx) (g0 g1 g2 g3 g4:Nat) (f:Nat -> Nat) (ll:Nat -> List Nat)=>coX_in (L:=L) (u:=u) (cs:=cs) (g0:=g0) (g1:=g1) (g2:=g2) (g3:=g3) (g4:=g4) (f:=f) (ll:=ll) hL ht)
 have Ot:=zH (fun (ll:Nat -> List Nat)=>coX_ok (L:=L) (ll:=ll))
 have HNn:=zH (fun (T k:Nat)=>nnX_le (L:=L) (T:=T) (k:=k) hL)
 have ZA:=zH (fun (T k:Nat)=>ppX_lt (L:=L) (T:=T) (k:=k) hL)
 have UD:=zH (VE hA fun u h=>h.2.2)
 have HK:=zH hK;have H:=zH h;have HF:=zH h.lt;have HTT:=zH (show L.a+L.b+L.b+L.b <= 40 by omega)
 clear hz hA hK h hL hn oe ht hT eM hO;obtain ⟨T,hTe⟩:=zEX (L.a+L.b+L.b+L.b);rw [<- hTe] at HFS Fm HCi Ot HTT;have iB:=zH (show (T:Int) <= 40 by have:=HTT.out;omega)
 obtain ⟨m2,rI⟩:=zEX (L.k+L.block-2);obtain ⟨m3,Bu⟩:=zEX (L.block+2*L.queries-1);rw [<- rI,<- Bu] at HFS Fm HCi;have ji:=zH rI;have LD:=zH Bu;clear hTe rI Bu;unfold Tb iq at *;unfold jb at HN HFS;go_enter func45,ntmps45
 go_upto_region 1 with fail
 generalize (((w.alloc _).alloc _).alloc _).alloc _=w1 at kc ka kr kz da |-;have cc:=kc.cell;go_wp2_with fail
 refine (HN.out _ da).mono ?_;rintro e w2 ⟨rfl,Ba⟩;replace kc:=ja kc Ba;replace ka:=ja ka Ba;replace kr:=ja kr Ba;replace kz:=ja kz Ba;replace da:=pa da Ba;have HGL:=zH kz.lt;have ma:=(Ca w2.1.size w2).alloc zR (.cells #[vd vn L.p,vd vq L.block,vd vq L.queries,vd vq L.k,vd vq L.n,vd vq L.secret,vd vq L.rows,vd vq L.a,vd vq L.b,vd vq L.b,vd vq L.b] 101);have kl:=Blk.new w2 101 #[vd vn L.p,vd vq L.block,vd vq L.queries,vd vq L.k,vd vq L.n,vd vq L.secret,vd vq L.rows,vd vq L.a,vd vq L.b,vd vq L.b,vd vq L.b];replace kc:=ja kc ma;replace ka:=ja ka ma;replace kr:=ja kr ma;replace kz:=ja kz ma;replace da:=pa da ma;clear Ba ma cc HN;go_upto_region 4 with fail
 generalize w2.alloc _=w3 at kc ka kr kz da kl |-;generalize w2.1.size=gl at kl HGL |-;have cc:=kc.cell;have cl:=kl.cell;go_wp2_with fail
 refine (HFS.out _).mono ?_;rintro e w4 ⟨cs,g0,g1,g2,g3,g4,NF,f,rfl,yj,Ab⟩;have l3:=kz.lt;have la3:=ka.lt;have ll3:=kl.lt;replace kc:=ja kc Ab;replace ka:=ja ka Ab;replace kr:=ja kr Ab;replace kz:=ja kz Ab;replace kl:=ja kl Ab;replace da:=pa da Ab;clear cc cl HFS;obtain ⟨ko,kt,Ya,ib⟩:=Eh w4 41 3 #[ve (vE ⟨g0,0,vD⟩) T T,ve (vE ⟨g1,0,vD⟩) L.k L.k,ve (vE ⟨g2,0,vD⟩) m2 m2,ve (vE ⟨g3,0,vD⟩) m3 m3,ve (vE ⟨g4,0,vD⟩) L.n L.n] #[vd vq 0];go_upto_region 6 with fail
 generalize (w4.alloc _).alloc _=w5 at ko kt Ya ib |-;have l45:=Ab.size;have HCB:=zH yj;have Us:=yj.k0.lt;have hgN:=yj.ge;have k0:=yj.k0.below Ya yj.k0.lt;have Pf:=zH (fun k hk=>(yj.kr.at_ k hk).1)
 obtain ⟨bk,RE⟩:=zEX (Ko T f g1 g2 g3 g4);obtain ⟨nn,mg⟩:=zEX (ur L T);obtain ⟨pp,Ze⟩:=zEX (gD L T);obtain ⟨gt,hgt⟩:=zEX (w4.1.size+1);obtain ⟨go,hgo⟩:=zEX (w4.1.size);rw [<- hgt] at kt |-;rw [<- hgo] at ko |-;obtain ⟨V,hV⟩:∃ V:Nat -> Prop,V=fun b=>b=gt \/ ∃ k,k<T+4 /\ b=bk k:=⟨_,rfl⟩
 obtain ⟨ll0,Zo⟩:=Fm.out _ _ _ _ _ _ _ _ _ _ _ V (yj.below Ya) kt;rw [<- RE,<- mg,<- Ze] at Zo;have Gb:∀ k,k<T+4 -> w3.1.size <= bk k /\ bk k<w4.1.size /\ bk k≠g0:=fun k hk=>by rw [RE];exact cob_lt yj hk
 have RG:=zH (show ∀ b,V b -> w3.1.size <= b /\ b≠g0 /\ b≠go by
  rw [hV];rintro b (rfl | ⟨k,hk,rfl⟩)
  ·omega
  ·have:=Gb k hk;omega)
 have DT:=pa (pa da (Ca _ _)) Ya;have HFx:=zH (show NxF (T+4) bk nn pp (w.1.size+1) gt w5 V D mD dD add from {
  inj:=by rw [RE];exact zBT yj
  ne:=fun k hk=>by have:=Gb k hk;omega
  vb:=fun k hk=>by rw [hV];exact .inr ⟨k,hk,rfl⟩
  vt:=by rw [hV];exact .inl rfl
  va:=fun e=>by have:=(RG.out _ e).1;omega
  ka:=ja ka Ya
  rd:=NO (Qd (YZ UD.out) (Af DT)) fun b hb e=>by have:=(RG.out _ e).1;have:=hb.2;have:=da.size;omega
  p0:=fun k _=>by rw [Ze];exact ZA.out _ _
  n0:=fun k _=>by rw [mg];have:=HNn.out T k;omega })
 have hNb:∀ k,k<T+4 -> nn k <= 2000:=fun k _=>by rw [mg];exact HNn.out _ _
 have mx:=zH hNb;obtain ⟨KB,Ux⟩:∃ KB:Nat -> Prop,KB=fun b=>¬V b /\ b<w5.1.size:=⟨_,rfl⟩
 have Iz:∀ b,¬V b -> b<w5.1.size -> KB b:=fun b h1 h2=>by rw [Ux];exact ⟨h1,h2⟩
 have Il:=zH (show ∀ b,KB b -> ¬V b by rw [Ux];exact fun b h=>h.1)
 replace kc:=ja kc Ya;replace kr:=ja kr Ya;replace kz:=ja kz Ya;replace kl:=ja kl Ya;have nV:∀ b,b<w3.1.size -> ¬V b:=fun b hb e=>by have:=(RG.out _ e).1;omega
 have yk:=zH (show Hd KB w5 (fun u=>Blk u w.1.size _ _ /\ Blk u (w.1.size+1+1) _ _ /\ Blk u (w.1.size+1+1+1) _ _ /\ Blk u gl _ _ /\ Blk u go _ _ /\ Blk u g0 _ _) from fun u a =>
  have bx:∀ {g:Nat} {t:vz} {cs:Array vx},Blk w5 g t cs -> ¬V g -> Blk u g t cs:=fun k hg=>(a.block _ (Iz _ hg k.lt) k.lt).trans k
  ⟨bx kc (nV _ (by omega)),bx kr (nV _ (by omega)),bx kz (nV _ (by omega)),bx kl (nV _ (by omega)),bx ko (fun e=>(RG.out _ e).2.2 rfl),bx k0 (fun e=>(RG.out _ e).2.1 rfl)⟩)
 have HB5:=zH DT;have Yr:=zH (show ∀ b,V b -> w.1.size <= b from fun b hb=>by have:=(RG.out _ hb).1;have:=da.size;omega)
 have CG:=zH RE;have YA:=zH mg;have RD:=zH Ze;have Gq:=zH Zo;have HI:=zH (show w.1.size <= g0 /\ g0<w5.1.size /\ ∀ k,k<T+4 -> w.1.size <= bk k /\ bk k<w5.1.size from ⟨by have:=da.size;omega,by omega,fun k hk=>by have:=Gb k hk;have:=da.size;omega⟩)
 clear Zo Ze mg RE DT kc kr kz kl ko k0 kt Ux Iz nV hNb Gb hV hgt hgo yj Ab Ya da ib Us hgN Fm UD HNn ZA l3 la3 ll3 l45 ka RG;have hT2:=iB.out;obtain ⟨-,-,-,-,ko5,-⟩:=Yg yk.out;have co5:=ko5.cell;go_upto_region 8 with fail
 clear co5 ko5;go_loopw [39] (fun y wr=>∃ (i:Nat) (ll:Nat -> List Nat) (Si:Nat),i <= T /\ y=vd vq i /\ Hid (Si <= 2000*i) /\ Hid (NxS (T+4) bk nn pp gt w5 V wr ll Si)) (fun y _=>T-(intOf y).toNat)
 case atStart=>exact ⟨0,ll0,0,Mb _,rfl,zH zR,Gq⟩
 case round =>
  obtain ⟨i,ll,Si,hi,rfl,Hl,HS⟩:=hrel;clear Gq;by_cases ta:i<T
  ·have Zb:=zH ta
   obtain ⟨kc,kr,kz,kl,ko,k0⟩:=Yg (Qd yk.out (Ek HS.out.m Il.out));have Sc:=JM HS.out HFx.out (by have:=Hl.out;have:=HTT.out;omega) (k:=i) (by omega)
   rw [show bk i=f i by rw [CG.out];exact qE ta,show nn i=L.queries by rw [YA.out];exact IM ta,show pp i=L.p by rw [RD.out];exact qq (by omega)] at Sc
   have Fm:=zH Sc;have En:=zH (show L.queries <= 2000 by have:=mx.out i (by omega);rwa [show nn i=L.queries by rw [YA.out];exact IM ta] at this)
   have c0i:=(k0.cell i).trans (Pf.out i ta);have cl:=kl.cell;have g1:(0:Int)<=i:=by omega
   have g2:(i:Int)<T:=by omega
   clear kc kr kz kl ko k0 Sc ta hi;go_wp2_with fail
   refine Fm.out.mono ?_;rintro e w6 ⟨rfl,l',Jo,Ps,qe⟩;have Hq:=zH qe;have HA2:=zH (show Jo <= 2000*(i+1) by have:=Hl.out;have:=En.out;omega)
   clear Ps qe c0i cl Fm;go_wp2
   go_roundw
   case rel=>exact ⟨i+1,l',Jo,Zb.out,by go_num,HA2,Hq⟩
   case measure=>have:=Zb.out;simp [intOf];omega
  ·obtain rfl:i=T:=by omega
   clear ta hi;replace Hl:=zH (show Si <= 80000 by have:=Hl.out;have:=HTT.out;omega)
   obtain ⟨kc,kr,kz,kl,ko,k0⟩:=Yg (Qd yk.out (Ek HS.out.m Il.out));have Sc:=JM HS.out HFx.out (by have:=Hl.out;omega) (k:=i) (by omega)
   have yg:nn (i)=L.k:=by rw [YA.out];exact aQ
   rw [show bk (i)=g1 by rw [CG.out];exact fH,yg,show pp (i)=L.p by rw [RD.out];exact qq (by omega)] at Sc
   have Fm:=zH Sc;have En:=zH (show L.k <= 2000 by have:=mx.out (i) (by omega);rwa [yg] at this)
   clear yg;have co:=ko.cell;have cl:=kl.cell;clear kc kr kz kl ko k0 Sc;go_wp2_with fail
   refine Fm.out.mono ?_;rintro e v1 ⟨rfl,l1,Jo,Ps,qe⟩;replace HS:=zH qe;replace Hl:=zH (show Jo <= 82000 by have:=Hl.out;have:=En.out;omega)
   clear Ps qe co cl Fm En;obtain ⟨kc,kr,kz,kl,ko,k0⟩:=Yg (Qd yk.out (Ek HS.out.m Il.out));have Sc:=JM HS.out HFx.out (by have:=Hl.out;omega) (k:=i+1) (by omega)
   have yg:nn (i+1)=m2:=by rw [YA.out];exact bQ.trans ji.out.symm
   rw [show bk (i+1)=g2 by rw [CG.out];exact gH,yg,show pp (i+1)=L.p by rw [RD.out];exact qq (by omega)] at Sc
   have Fm:=zH Sc;have En:=zH (show m2 <= 2000 by have:=mx.out (i+1) (by omega);rwa [yg] at this)
   clear yg;have co:=ko.cell;have cl:=kl.cell;clear kc kr kz kl ko k0 Sc;go_wp2_with fail
   refine Fm.out.mono ?_;rintro e v2 ⟨rfl,l2,at3,Ps,qe⟩;replace HS:=zH qe;replace Hl:=zH (show at3 <= 84000 by have:=Hl.out;have:=En.out;omega)
   clear Ps qe co cl Fm En;obtain ⟨kc,kr,kz,kl,ko,k0⟩:=Yg (Qd yk.out (Ek HS.out.m Il.out));have Sc:=JM HS.out HFx.out (by have:=Hl.out;omega) (k:=i+2) (by omega)
   have yg:nn (i+2)=m3:=by rw [YA.out];exact cQ.trans LD.out.symm
   rw [show bk (i+2)=g3 by rw [CG.out];exact iH,yg,show pp (i+2)=L.p by rw [RD.out];exact qq (by omega)] at Sc
   have Fm:=zH Sc;have En:=zH (show m3 <= 2000 by have:=mx.out (i+2) (by omega);rwa [yg] at this)
   clear yg;have co:=ko.cell;have cl:=kl.cell;clear kc kr kz kl ko k0 Sc;go_wp2_with fail
   refine Fm.out.mono ?_;rintro e v3 ⟨rfl,l3,at4,Ps,qe⟩;replace HS:=zH qe;replace Hl:=zH (show at4 <= 86000 by have:=Hl.out;have:=En.out;omega)
   clear Ps qe co cl Fm En;obtain ⟨kc,kr,kz,kl,ko,k0⟩:=Yg (Qd yk.out (Ek HS.out.m Il.out));have Sc:=JM HS.out HFx.out (by have:=Hl.out;omega) (k:=i+3) (by omega)
   have yg:nn (i+3)=L.n:=by rw [YA.out];exact dQ
   rw [show bk (i+3)=g4 by rw [CG.out];exact jH,yg,show pp (i+3)=18446744069414584321 by rw [RD.out];exact uQ] at Sc
   rw [show ((18446744069414584321:Nat):Int)=18446744069414584321 from rfl] at Sc
   have Fm:=zH Sc;have En:=zH (show L.n <= 2000 by have:=mx.out (i+3) (by omega);rwa [yg] at this)
   clear yg;have co:=ko.cell;have cl:=kl.cell;clear kc kr kz kl ko k0 Sc;go_wp2_with fail
   refine Fm.out.mono ?_;rintro e v4 ⟨rfl,l4,at5,Ps,qe⟩;replace HS:=zH qe;replace Hl:=zH (show at5 <= 88000 by have:=Hl.out;have:=En.out;omega)
   clear Ps qe co cl Fm En;obtain ⟨kc,kr,kz,kl,ko,k0⟩:=Yg (Qd yk.out (Ek HS.out.m Il.out));have Jb:=eH HB5.out HS.out.m Yr.out;have hCo:Hd (fun b=>w.1.size <= b /\ b<v4.1.size) v4 fun u=>sN u (qH i l4) ⟨vE ⟨g0,0,vD⟩,i,i,vE ⟨g1,0,vD⟩,L.k,L.k,vE ⟨g2,0,vD⟩,m2,m2,vE ⟨g3,0,vD⟩,m3,m3,vE ⟨g4,0,vD⟩,L.n,L.n⟩:=fun u a=>by
    have ib:=HS.out.m.size;exact HCi.out _ _ _ _ _ _ _ _ _ ((a.block _ ⟨HI.out.1,Kc HI.out.2.1 ib⟩ k0.lt).trans k0) Pf.out fun k hk=>by
     obtain ⟨h1,h2,h3⟩:=HS.out.l k hk;have hb:=HI.out.2.2 k hk;refine ⟨?_,by rw [h2,YA.out],by rw [<- RD.out];exact h3⟩
     rw [<- CG.out];exact (a.block _ ⟨hb.1,Kc hb.2 ib⟩ h1.lt).trans h1
   have hCk:=Ot.out _ fun k hk=>by
    obtain ⟨-,h2,h3⟩:=HS.out.l k hk;exact ⟨by rw [h2,YA.out],by rw [<- RD.out];exact h3⟩
   have HP:=zH (ki.out _ _ hCk v4 Jb hCo);obtain ⟨P,hP⟩:=zEX ((yh L j pu vars rows ws (qH i l4)).pr O);obtain ⟨OF,RH⟩:=zEX ((yh L j pu vars rows ws (qH i l4)).oF O);rw [<- hP,<- RH] at HP;have HCK:=zH hCk;have Qu:=zH hP;have HOE:=zH RH;unfold coCs at HP;dsimp only at HP
   have WA:=zH Jb;clear hP RH hCk hCo Jb ki HCi Ot HI HS Hl Pf HFx yk HB5 CG YA RD mx ji LD;have cc:=kc.cell;have co:=ko.cell;go_wp2_with fail
   refine HP.out.mono ?_;rintro e v5 ⟨S,F',rfl,ho,hm,hp⟩;have nF:∀ {b},w.1.size <= b -> ¬F b:=fun hb e=>by have:=HF.out _ e;omega
   have nr:=Sd hm kr.lt (nF (by omega))
   have nz:=Sd hm kz.lt (nF (by omega))
   have lr4:=kr.lt;have lz4:=kz.lt;replace kr:=kr.moved hm (nF (by omega))
   replace kz:=kz.moved hm (nF (by omega))
   replace kl:=kl.moved hm (nF (by have:=HGL.out;omega))
   have Em:=zH ((Qc (F:=F) WA.out).trans hm);have hs4:=WA.out.size;unfold Od;have ma:=(Ca v5.1.size v5).alloc zR (.cells #[vd vn P.root,ve S.A1 S.n1 S.c1,ve S.A2 S.n2 S.c2,ve S.A3 S.n3 S.c3,ve S.A4 S.n4 S.c4,ve S.A5 S.n5 S.c5,ve S.A6 S.n6 S.c6] 46);have kp:=Blk.new v5 46 #[vd vn P.root,ve S.A1 S.n1 S.c1,ve S.A2 S.n2 S.c2,ve S.A3 S.n3 S.c3,ve S.A4 S.n4 S.c4,ve S.A5 S.n5 S.c5,ve S.A6 S.n6 S.c6];have lr5:=kr.lt;have lz5:=kz.lt;have ll5:=kl.lt;replace kr:=ja kr ma;replace kz:=ja kz ma;replace kl:=ja kl ma;have HO:=zH (ho.below ma);replace Em:=zH (Em.out.trans (Qc ma));have Dq:=zH (Qd (NO hp (K':=fun b=>v4.1.size <= b /\ b<v5.1.size /\ ¬F' b) fun b h=>h) (Af ma))
   have s56:=ma.size;clear hm ho hp ma cc co HP kc ko k0;go_upto_region 17 with fail
   generalize v5.alloc _=v6 at kp kr kz kl HO Em Dq s56 |-;generalize v5.1.size=gp at kp lr5 lz5 ll5 Dq s56 |-;obtain ⟨VR,OE⟩:∃ VR:Nat -> Prop,VR=fun b=>b=w.1.size+1+1 \/ b=w.1.size+1+1+1:=⟨_,rfl⟩
   have v1:VR (w.1.size+1+1):=by rw [OE];exact .inl rfl
   have v2:VR (w.1.size+1+1+1):=by rw [OE];exact .inr rfl
   have fr0:¬VR gl:=by rw [OE];intro e;have:=HGL.out;omega
   have fr1:¬VR gp:=by rw [OE];intro e;omega
   have r0:gl<v6.1.size:=kl.lt;have r1:gp<v6.1.size:=kp.lt;have cl:=kl.cell;have cp:=kp.cell;obtain ⟨NR,PB⟩:=zEX (v6.1.size);rw [<- PB] at r0 r1;have HR:=zH kr;have HZ:=zH kz;clear OE PB kr kz kl kp;refine zd (Ji VR NR) [4,5] [0,1,2,3,4,5,6] (by kernel_rfl) (by kernel_rfl) ?_
   refine Se (Cc VR NR) ?_;intro Wc Ja ia;replace HR:=zH (show Blk Wc _ _ _ by rw [Ja.out];exact HR.out.drew)
   replace HZ:=zH (show Blk Wc _ _ _ by rw [Ja.out];exact HZ.out.drew)
   replace HO:=zH (show OrcAt Wc g OF F' by rw [Ja.out];exact HO.out.drew)
   replace Em:=zH (show Moved F F' w Wc by rw [Ja.out];exact ow Em.out)
   replace Dq:=zH (show Hd _ Wc _ from Qd Dq.out (by rw [Ja.out];exact AX))
   have sW:gp <= Wc.1.size:=by rw [Ja.out];exact s56
   clear Ja;refine Lr ?_;have cr:=HR.out.cell;have fr:=HR.out.frozen;refine ef (Cc VR NR) rfl rfl rfl ?_;go_simp;obtain ⟨wy,hwy,kr,sr⟩:=W9 HR.out (vd vn L.p) (vd vq L.block) (vd vq L.queries) (vd vq L.k) (vd vq L.n) (vd vq L.secret) (vd vq L.rows) (vd vq L.a) (vd vq L.b) (vd vq L.b) (vd vq L.b);rw [hwy];refine ⟨sr.fromF v1,?_⟩
   refine zPU ?_
   replace HZ:=zH (sr.blk HZ.out (by omega))
   replace HO:=zH (sr.orc HO.out nr);replace Em:=zH (Em.out.st sr (by omega))
   replace Dq:=zH (sr.hd Dq.out fun e=>by omega)
   have KR:=zH kr;replace sW:gp <= wy.1.size:=by rw [sr.size];exact sW
   clear hwy cr fr ia sr kr HR;have ia:=(Cc VR NR).refl wy;refine Lr ?_;have cz:=HZ.out.cell;have fz:=HZ.out.frozen;refine ef (Cc VR NR) rfl rfl rfl ?_;go_simp;obtain ⟨wz,hwz,kz,sz⟩:=zHC HZ.out (vd vn P.root) (ve S.A1 S.n1 S.c1) (ve S.A2 S.n2 S.c2) (ve S.A3 S.n3 S.c3) (ve S.A4 S.n4 S.c4) (ve S.A5 S.n5 S.c5) (ve S.A6 S.n6 S.c6);rw [hwz];refine ⟨sz.fromF v2,?_⟩
   refine zPU ?_
   replace HO:=zH (sz.orc HO.out nz);replace Em:=zH (Em.out.st sz (by omega))
   replace Dq:=zH (sz.hd Dq.out fun e=>by omega)
   have cr:=(sz.blk KR.out (by omega)).cell
   have cz':=kz.cell;have lgp:gp <= wz.1.size:=by rw [sz.size];exact sW
   clear hwz cz fz ia sz kz HZ KR cl cp;have ia:=(Cc VR NR).refl wz;refine Lr ?_;refine Jc ?_;go_wp2;refine Tc (v:=.tuple #[vf #[vd vn L.p,vd vq L.block,vd vq L.queries,vd vq L.k,vd vq L.n,vd vq L.secret,vd vq L.rows,vd vq L.a,vd vq L.b,vd vq L.b,vd vq L.b],vf #[vd vn P.root,ve S.A1 S.n1 S.c1,ve S.A2 S.n2 S.c2,ve S.A3 S.n3 S.c3,ve S.A4 S.n4 S.c4,ve S.A5 S.n5 S.c5,ve S.A6 S.n6 S.c6], .bool true]) (by simp [results,results45,go_sem,cr,cz']) rfl ?_
   refine ⟨qH i l4,S,F',HCK.out,?_,?_,Em.out,?_⟩
   ·rw [<- Qu.out];rfl
   ·rw [<- HOE.out];exact HO.out
   ·rw [<- Qu.out]
    exact NO Dq.out fun b hb=>⟨xb hs4 hb.1,Kc hb.2.1 lgp,hb.2.2⟩
theorem VV {w:vw} {b i:Nat} {t:vz} (k:Blk w b t #[vd vq i,vd vn 1]) (hi:i<100):RLin w [ve (vE ⟨b,0,vD⟩) 1 1] [((i:Int),1)]:=by
 refine ⟨_,1,1,rfl,rfl,zR,by simp [maxLen],fun j hj=>⟨_,[vd vq i,vd vn 1],rfl,rfl,fun q hq=>?_,?_⟩⟩
 ·obtain rfl:j=0:=by simpa using hj
  rw [Sl,show 0+(0*2+q)=q by omega,k.cell]
  simp
 ·obtain rfl:j=0:=by simpa using hj
  exact ⟨rfl,by simp;omega,by simp⟩
def Er (i j k:Nat):Ua:=⟨[((i:Int),1)],[((j:Int),1)],[((k:Int),1)]⟩
theorem rrow_N {w:vw} {b1 b2 b3 b4 i j k:Nat} {t u:vz} (hi:i<100) (hj:j<100) (hk:k<100) (k1:Blk w b1 t #[vd vq i,vd vn 1]) (k2:Blk w b2 t #[vd vq j,vd vn 1]) (k3:Blk w b3 t #[vd vq k,vd vn 1]) (k4:Blk w b4 u #[ve (vE ⟨b1,0,vD⟩) 1 1,ve (vE ⟨b2,0,vD⟩) 1 1,ve (vE ⟨b3,0,vD⟩) 1 1]) :
  RSl 3 Ud w [ve (vE ⟨b4,0,vD⟩) 1 1] [Er i j k]:=by
 refine ⟨_,1,1,rfl,rfl,zR,by simp [maxLen],fun x hx=>⟨_,[ve (vE ⟨b1,0,vD⟩) 1 1,ve (vE ⟨b2,0,vD⟩) 1 1,ve (vE ⟨b3,0,vD⟩) 1 1],rfl,rfl,fun q hq=>?_,?_⟩⟩
 ·obtain rfl:x=0:=by simpa using hx
  rw [Sl,show 0+(0*3+q)=q by omega,k4.cell]
  simp
 ·obtain rfl:x=0:=by simpa using hx
  exact ⟨_,_,_,rfl,VV k1 hi,VV k2 hj,VV k3 hk⟩
theorem zHP (i:Int) (w:vw) :
  vB prog 113 #[vd vq i] w fun e w'=>∃ g,e=vl (ve (vE ⟨g,0,vD⟩) 1 1) /\ w.1.size <= g /\ Blk w' g 208 #[vd vq i,vd vn 1] /\ vA w.1.size w w':=by
 go_enter func113,ntmps113
 go_wp2_with fail
 go_ret
 exact ⟨_,rfl,zR,Blk.new _ _ _,(Ca _ _).alloc zR _⟩
theorem zCK (w:vw) :
  vB prog 52 #[] w fun e w'=>∃ gr gw,e=vl (vf #[vd vn 97,vd vq 1,vd vq 4,ve (vE ⟨gr,0,vD⟩) 1 1,vd vq 2,vd vq 1,vd vq 2,ve (vE ⟨gw,0,vD⟩) 4 4,vd vn 3, .bool true,vd vn 0]) /\ RSl 3 Ud w' [ve (vE ⟨gr,0,vD⟩) 1 1] [Er 2 3 1] /\ RWd w' [ve (vE ⟨gw,0,vD⟩) 4 4] [1,35,5,7] /\ vA w.1.size w w':=by
 have HT:=zH (fun i w=>zHP i w)
 have k0:=Blk.new w 32 #[vd vn 0,vd vq 0,vd vq 0,ve vD 0 0,vd vq 0,vd vq 0,vd vq 0,ve vD 0 0,vd vn 0, .bool false,vd vn 0];have da:=(Ca w.1.size w).alloc zR (.cells #[vd vn 0,vd vq 0,vd vq 0,ve vD 0 0,vd vq 0,vd vq 0,vd vq 0,ve vD 0 0,vd vn 0, .bool false,vd vn 0] 32);go_enter func52,ntmps52
 go_upto_region 2 with fail
 generalize w.alloc _=w1 at k0 da |-;go_wp2_with fail
 refine (HT.out _ _).mono ?_;rintro e w2 ⟨a1,rfl,h1,k1,xa⟩;have ly:=k0.lt;have Kz:w.1.size<a1:=by omega
 replace k0:=ja k0 xa;replace da:=pa da xa;clear xa h1 ly;go_wp2_with fail
 refine (HT.out _ _).mono ?_;rintro e w3 ⟨a2,rfl,h2,k2,xa⟩;have ly:=k0.lt;have ha2:w.1.size<a2:=by omega
 replace k0:=ja k0 xa;replace k1:=ja k1 xa;replace da:=pa da xa;clear xa h2 ly;go_wp2_with fail
 refine (HT.out _ _).mono ?_;rintro e w4 ⟨a3,rfl,h3,k3,xa⟩;have ly:=k0.lt;have ha3:w.1.size<a3:=by omega
 replace k0:=ja k0 xa;replace k1:=ja k1 xa;replace k2:=ja k2 xa;replace da:=pa da xa;clear xa h3 ly;go_upto_region 3 with fail
 obtain ⟨kr,kt,xa,-⟩:=Eh w4 211 25 #[ve (vE ⟨a1,0,vD⟩) 1 1,ve (vE ⟨a2,0,vD⟩) 1 1,ve (vE ⟨a3,0,vD⟩) 1 1] #[vd vn 97,vd vq 1,vd vq 4,ve (vE ⟨w4.1.size,0,vD⟩) 1 1];have hr0:w.1.size<w4.1.size:=k0.lt;replace k0:=ja k0 xa;replace k1:=ja k1 xa;replace k2:=ja k2 xa;replace k3:=ja k3 xa;replace da:=pa da xa;clear xa;generalize (w4.alloc _).alloc _=w5 at kr kt k0 k1 k2 k3 da |-;generalize w4.1.size+1=gt at kt |-;generalize w4.1.size=gr at kr kt hr0 |-;have ct:=kt.cell;have lt:=kt.lt;have Vn:w.1.size<w5.1.size:=k0.lt;have c0:=k0.cell;have f0:=k0.frozen;go_wp2_with fail
 obtain ⟨wy,hwy,kf,sf⟩:=W9 k0 (vd vn 97) (vd vq 1) (vd vq 4) (ve (vE ⟨gr,0,vD⟩) 1 1) (vd vq 2) (vd vq 1) (vd vq 2) (ve (vE ⟨w5.1.size,0,vD⟩) 4 4) (vd vn 3) (.bool true) (vd vn 0);rw [hwy];have kw:=Blk.new wy 22 #[vd vn 1,vd vn 35,vd vn 5,vd vn 7];rw [sf.size] at kw;replace k1:=sf.blk k1 (by omega)
 replace k2:=sf.blk k2 (by omega)
 replace k3:=sf.blk k3 (by omega)
 replace kr:=sf.blk kr (by omega)
 replace da:=sf.below da zR;have ma:=(Ca wy.1.size wy).alloc zR (.cells #[vd vn 1,vd vn 35,vd vn 5,vd vn 7] 22);replace kf:=ja kf ma;replace k1:=ja k1 ma;replace k2:=ja k2 ma;replace k3:=ja k3 ma;replace kr:=ja kr ma;replace da:=pa da ma;clear hwy sf ct lt c0 f0 k0 ma;generalize wy.alloc _=wf at kw kf k1 k2 k3 kr da |-;generalize w5.1.size=gw at kw kf |-;have cf:=kf.cell;have y1:=rrow_N (i:=2) (j:=3) (k:=1) (by omega) (by omega) (by omega) k1 k2 k3 kr
 have y2:=XI (l:=[1,35,5,7]) kw rfl (by decide) (by simp [maxLen])
 refine Tc (v:=vf #[vd vn 97,vd vq 1,vd vq 4,ve (vE ⟨gr,0,vD⟩) 1 1,vd vq 2,vd vq 1,vd vq 2,ve (vE ⟨gw,0,vD⟩) 4 4,vd vn 3, .bool true,vd vn 0]) ?_ rfl ?_
 ·simp [results,results52,go_sem,cf]
 ·exact ⟨gr,gw,rfl,y1,y2,da⟩
def layE:Ma:=⟨97,2,2,4,8,2,1,1,1⟩
theorem FP:Lb layE:=⟨by decide,by decide,by decide,by decide,by decide,by decide,⟨3,rfl⟩,by decide,by decide,by decide,by decide,by decide,by decide,by decide,by decide,by decide,by decide,by decide,by decide⟩
theorem EP:mi layE ⟨layE.p,((1:Nat):Int),4,[Er 2 3 1].length,2,1,2⟩:=⟨rfl,by kernel_rfl,by decide +kernel,by decide,by decide⟩
theorem YQ:Vu layE.p ((1:Nat):Int) 4 [Er 2 3 1] [1,35,5,7] true:=⟨by decide +kernel,by decide +kernel,fun _=>by decide,by decide,by decide +kernel⟩
theorem S6:∀ (p:List Nat) {O:Ha} {k:Nat} (lab:Nat) (el:List Nat) (i:Nat),pc O k -> pc (El p O lab el i) (k+p.length+1)
 | [],O,k,lab,el,_,h=>uf (dJ h lab el) (by simp)
 | a :: ps,O,k,lab,el,i,h=>by
  unfold El;cases Ri O lab el with
  | none=>exact uf (dJ h lab el) (by simp only [xg];omega)
  | some b=>exact uf (S6 ps _ _ _ (dJ h lab el)) (by simp only [xg];omega)
theorem zE8 {O:Ha} {k:Nat} (h:pc O k) (root n i oc:Nat) (leaf path:List Nat):pc (zp O root n i oc leaf path) (k+11):=by
 unfold zp;split
 ·next hv =>
  have:=(T7 hv).1;exact uf (S6 path 16 _ i h) (by omega)
 ·exact uf h (by omega)
theorem zGh {L:Ma} {j:Nat} {P:se} (h:ei L j P=true):P.cols.length=L.queries /\ (∀ c∈P.cols,c.length=L.a+L.b+L.b+L.b+3) /\ P.salts.length=L.queries /\ P.paths.length=L.queries /\ ∀ c∈P.paths,c.length=j:=by
 unfold ei mw Tk at h;simp only [mc,qi,fe] at h;obtain ⟨-,-,-,-,⟨hc,Wh⟩,⟨-,hs⟩,hp,Xe⟩:=h;exact ⟨by omega,fun c k=>by have:=(hc c k).2;omega,by omega,by omega,fun c k=>by have:=(hp c k).2;omega⟩
theorem zFm {w:vw} {g:Nat} {O:Ha} {F K:Nat -> Prop} (h:OrcAt w g O F) (L:Ma) (j pu:Nat) (vars bl bw qs:Int) (A B:Option vy) (n c m d:Nat) (rows:List Ua) (pb:List Nat) (P:se) (S:PS)
  (hX:Ry L.p (pu:Int) vars rows bl bw qs pb L) (hn:L.n=2^j) (hD:yG L.p (pu:Int) vars rows) (ht:L.a+3*L.b <= 40)
  (hA:Hd K w fun u=>RSl 3 Ud u [ve A n c] rows /\ RWd u [ve B m d] pb /\ gh u P S) (hK:∀ b,K b -> b<w.1.size /\ ¬F b) (hO:pc O 100000) :
  vB prog 83 #[.pointer (vE ⟨g,0,vD⟩),vf (jb L),Tb L.p (pu:Int) vars (ve A n c),ve B m d,vf (Od P S)] w fun e w' =>
   ∃ F',e=vl (.bool (Mj O L j pu (Cf L.p (pu:Int) vars rows) rows pb P).1) /\ OrcAt w' g (Mj O L j pu (Cf L.p (pu:Int) vars rows) rows pb P).2 F' /\ Moved F F' w w':=by
 obtain ⟨kl,kt,kp,da,-⟩:=Sp w 101 25 46 (jb L) #[vd vn L.p,vd vq pu,vd vq vars,ve A n c] (Od P S);have hj:=JK hn hX.ok.n2;have a0:=Yg hA;have Vt:=zH (fun u (hb:vA w.1.size w u)=>kV L j P S u hX.ok hn hj (Bi hA (Af hb)).2.2)
 have H:=zH h;have nF:=zH (show ∀ b,w.1.size <= b -> ¬F b from fun b hb e=>by have:=h.lt b e;omega)
 have HK:=zH hK;obtain ⟨r,hr⟩:=zEX (Mj O L j pu (Cf L.p (pu:Int) vars rows) rows pb P);rw [<- hr];cases hv:ei L j P
 ·rw [hv] at Vt
  have HR:=zH (show r=(false,O) by rw [hr];unfold Mj;rw [hv];rfl)
  clear hr hv a0 hj hA hX hD ht hK hO hn h;unfold jb Od Tb at *;go_enter func83,ntmps83
  go_upto_region 1 with fail
  generalize ((w.alloc _).alloc _).alloc _=w1 at kl kt kp da |-;have cl:=kl.cell;have cp:=kp.cell;go_wp2_with fail
  refine (Vt.out _ da).mono ?_;rintro e w2 ⟨rfl,Ba⟩;have hb:=pa da Ba;go_wp2;go_ret
  exact ⟨F,by rw [HR.out];rfl,by rw [HR.out];exact H.out.below hb,Qc hb⟩
 rw [hv] at Vt;obtain ⟨ch,dy⟩:=zEX (fj (Jd O L (Cf L.p (pu:Int) vars rows) pb) L.p P.root);obtain ⟨pos,Nk⟩:=zEX (Cl (Td (Jd O L (Cf L.p (pu:Int) vars rows) pb) P.root) (P.code++P.linear++P.quad) L.n L.queries);obtain ⟨O1,Pn⟩:=zEX (Hi (Td (Jd O L (Cf L.p (pu:Int) vars rows) pb) P.root) (P.code++P.linear++P.quad) L.queries);obtain ⟨sb,hsb⟩:=zEX (mG L (Ir L.p rows.length ch.rh (1 :: pb) rows 3) P.code P.linear P.quad);obtain ⟨f,hf⟩:∃ f:Nat -> Bool,f=fun i=>BB L (Uh L pu ch.rh rows) ch.al ch.be P.code P.linear P.quad ((pos.getD i 0:Nat):Int) (P.cols.getD i []):=⟨_,rfl⟩
 obtain ⟨v,Xv⟩:∃ v:Ha -> Nat -> Bool,v=fun Z i=>Cp Z P.root L.n (pos.getD i 0) (P.salts.getD i 0) (P.cols.getD i []) (P.paths.getD i []):=⟨_,rfl⟩
 obtain ⟨o,ho⟩:∃ o:Ha -> Nat -> Ha,o=fun Z i=>zp Z P.root L.n (pos.getD i 0) (P.salts.getD i 0) (P.cols.getD i []) (P.paths.getD i []):=⟨_,rfl⟩
 obtain ⟨q,hq⟩:=zEX (L.queries);have HR:=zH (show r=if sb then (if ku f q q then xp v o q q O1 else (false,O1)) else (false,O1) by
  rw [hr,hsb,hf,Xv,ho,Pn,Nk,dy,hq];unfold Mj;rw [hv,Na rfl])
 have hm:m=pu:=by have h1:=(Nb a0.2.1).1;have h2:=hX.len;omega
 subst hm;have hpu:m<65536:=by have:=(rJ hX.tab);omega
 have hc:=fun (u:vw) (ho:OrcAt u g O F) (a:ij K w u)=>zFp ho L j hX.ok hn hj (Pb hX.ok.p).2 L.p m vars A B n c m d rows pb P S (Bi hA a).1 hD hX.tab (Bi hA a).2.1 (VE (Qd hA a) fun u h=>h.2.2) (fun b hb=>(hK b hb).2) (uf hO (by omega)) hv rfl (by omega) hX.lt (zGg hX.ok hv) a0.2.2.root
 rw [<- dy,<- Pn,<- Nk] at hc;have hs:=fun (u:vw) (a:ij K w u)=>zFI L m ch.rh ch.al ch.be vars A B S.A1 S.A2 S.A3 n c d S.n1 S.c1 S.n2 S.c2 S.n3 S.c3 rows pb P.code P.linear P.quad u hX.ok (ZQ hX.tab hX.lfor) (Bi hA a).1 (Bi hA a).2.1 (Bi hA a).2.2.code (Bi hA a).2.2.linear (Bi hA a).2.2.quad
 rw [<- hsb] at hs;have hcol:∀ (i:Nat) (u:vw),ij K w u -> ∀ (B1:Option vy) (nn cn:Nat),RWd u [ve B1 nn cn] (P.cols.getD i []) -> vB prog 177 #[vf (jb L),Tb L.p (m:Int) vars (ve A n c),vf #[vd vn ch.al,vd vn ch.rh,vd vn ch.be],ve S.A1 S.n1 S.c1,ve S.A2 S.n2 S.c2,ve S.A3 S.n3 S.c3,vd vq ((pos.getD i 0:Nat):Int),ve B1 nn cn] u fun e w'=>e=vl (.bool (f i)) /\ vA u.1.size u w':=fun i u a B1 nn cn Wh=>by
  rw [hf];exact zFq L m ch.rh ch.al ch.be vars _ A S.A1 S.A2 S.A3 B1 n c S.n1 S.c1 S.n2 S.c2 S.n3 S.c3 nn cn rows P.code P.linear P.quad _ u hX.ok (ZQ hX.tab hX.lfor) (Bi hA a).1 (SW hX.tab) (Bi hA a).2.2.code (Bi hA a).2.2.linear (Bi hA a).2.2.quad Wh
 obtain ⟨hl4,Rs,hl5,hl6,SE⟩:=zGh hv;have hver:∀ (i:Nat) (u:vw) (Z:Ha) (Fz KB:Nat -> Prop),i<q -> OrcAt u g Z Fz -> pc Z 300000 -> ∀ (B1 B2:Option vy) (lq Tp XC AB:Nat),Ue KB u (ve B1 lq Tp) (P.cols.getD i []) -> Ue KB u (ve B2 XC AB) (P.paths.getD i []) -> (∀ b,KB b -> b<u.1.size /\ ¬Fz b) ->
   vB prog 178 #[.pointer (vE ⟨g,0,vD⟩),vd vn P.root,vd vq L.n,vd vq ((pos.getD i 0:Nat):Int),vf #[ve B1 lq Tp,vd vn ((P.salts.getD i 0:Nat):Int),ve B2 XC AB]] u fun e w'=>∃ F',e=vl (.bool (v Z i)) /\ OrcAt w' g (o Z i) F' /\ Moved Fz F' u w':=fun i u Z Fz KB hi hz hzl B1 B2 lq Tp XC AB h1 h2 hk=>by
  rw [Xv,ho];exact zIi hz P.root L.n _ _ B1 B2 lq Tp XC AB _ _ h1 h2 hk (by rw [Rs _ (Cv [] (by rw [hl4,<- hq];exact hi))];omega) (by rw [SE _ (Cv [] (by rw [hl6,<- hq];exact hi))];omega) hzl
 have hole:∀ Z k i,pc Z k -> pc (o Z i) (k+11):=fun Z k i hz=>by rw [ho];exact zE8 hz _ _ _ _ _ _
 have OZ:pc O1 101000:=by
  rw [Pn];have h1:pc (Jd O L (Cf L.p (m:Int) vars rows) pb).O (100000+1):=pq hO 18 _;have h3:=kQ h1 (Jd O L (Cf L.p (m:Int) vars rows) pb).st (Jd O L (Cf L.p (m:Int) vars rows) pb).ct P.root;have h4:=pq h3 18 ((Td (Jd O L (Cf L.p (m:Int) vars rows) pb) P.root).st :: 3 :: (P.code++P.linear++P.quad));have h5:=aD (lab:=19) (qj (Kg (Td (Jd O L (Cf L.p (m:Int) vars rows) pb) P.root) 3 (P.code++P.linear++P.quad)).st 0 L.queries) h4;rw [IU] at h5;have:=hX.ok.q2;exact uf h5 (by omega)
 have Xe:pos.length=q:=by rw [Nk,hq];exact L3 _ _ _ _ (by have:=hX.ok.nk;have:=hX.ok.k;omega)
 have hq64:q <= 64:=by rw [hq];exact hX.ok.q2
 have HC:=zH hc;have HS:=zH hs;have HCol:=zH hcol;have HVer:=zH hver;have HOL:=zH hole;have Wy:=zH OZ;have Gn:=zH Xe;have HQ:=zH hq64;have HL:=zH (show P.cols.length=q /\ P.salts.length=q /\ P.paths.length=q by rw [hq];exact ⟨hl4,hl5,hl6⟩)
 have HA:=zH hA;rw [<- hq] at HC;clear hr hv a0 hj hA hX hD ht hK hO hn h hc hs hcol hver hole OZ Xe hq64 hl4 hl5 hl6 Rs SE Pn Nk dy hsb hf Xv ho hq hpu;unfold jb Od Tb at *;go_enter func83,ntmps83
 go_upto_region 1 with fail
 generalize ((w.alloc _).alloc _).alloc _=w1 at kl kt kp da |-;have cl:=kl.cell;have cp:=kp.cell;go_wp2_with fail
 refine (Vt.out _ da).mono ?_;rintro e w2 ⟨rfl,Ba⟩;replace kl:=ja kl Ba;replace kt:=ja kt Ba;replace kp:=ja kp Ba;replace da:=pa da Ba;clear Ba cl cp Vt;have cl:=kl.cell;have ct:=kt.cell;have cp:=kp.cell;go_wp2_with fail
 refine (HC.out _ (H.out.below da) (Af da)).mono ?_;rintro _ w3 ⟨gr,dr,F1,rfl,ho1,m1,ow1,nr1⟩;have nl:=Sd m1 kl.lt (nF.out _ zR);have nt:=Sd m1 kt.lt (nF.out _ (by omega))
 have np:=Sd m1 kp.lt (nF.out _ (by omega))
 replace kl:=kl.moved m1 (nF.out _ zR);replace kt:=kt.moved m1 (nF.out _ (by omega))
 replace kp:=kp.moved m1 (nF.out _ (by omega))
 have AG:=uB (Af da) (Ek m1 fun b hb=>(HK.out b hb).2)
 have MV:=(Qc (F:=F) da).trans m1;have lgr:gr<w3.1.size:=(ow1.lt gr rfl).2;have KF:∀ b,K b -> ¬F1 b /\ b<w3.1.size:=fun b hb=>⟨Sd m1 (Kc (HK.out b hb).1 da.size) (HK.out b hb).2,Kc (HK.out b hb).1 MV.size⟩
 have OWR:=hd_own ow1;have nc:¬F1 w3.1.size:=fun e=>by have:=ho1.lt _ e;omega
 have kc:=Blk.new w3 136 #[vd vn ch.al,vd vn ch.rh,vd vn ch.be];have ma:=(Ca w3.1.size w3).alloc zR (.cells #[vd vn ch.al,vd vn ch.rh,vd vn ch.be] 136);have ib:=ma.size;clear m1 ow1 da cl ct cp HC;go_upto_region 4 with fail
 generalize w3.alloc _=w4 at kc ma ib |-;replace ho1:=ho1.below ma;replace MV:=MV.trans (Qc ma);replace AG:=uB AG (Af ma);replace OWR:=Qd OWR (Af ma);replace kl:=ja kl ma;replace kt:=ja kt ma;replace kp:=ja kp ma;obtain ⟨gc,hgc⟩:=zEX (w3.1.size);rw [<- hgc] at kc nc |-;obtain ⟨KB,Ux⟩:∃ KB:Nat -> Prop,KB=fun b=>¬F1 b /\ b<w4.1.size:=⟨_,rfl⟩
 have Iz:∀ b,¬F1 b -> b<w4.1.size -> KB b:=fun b h1 h2=>by rw [Ux];exact ⟨h1,h2⟩
 have Il:=zH (show ∀ b,KB b -> ¬F1 b /\ b<w4.1.size by rw [Ux];exact fun b h=>h)
 have KKB:=zH (show ∀ b,K b -> KB b from fun b hb=>Iz b (KF b hb).1 (Kc (KF b hb).2 ib))
 have HKM:=zH (show KB w.1.size /\ KB (w.1.size+1+1) /\ KB gc /\ KB gr from ⟨Iz _ nl kl.lt,Iz _ np kp.lt,Iz _ nc kc.lt,Iz _ nr1 (Kc lgr ib)⟩)
 have yk:=zH (show Hd KB w4 (fun u=>Blk u w.1.size _ _ /\ Blk u (w.1.size+1) _ _ /\ Blk u (w.1.size+1+1) _ _ /\ Blk u gc _ _ /\ ij K w u /\ Rd u 1 (vE ⟨gr,0,vD⟩) q (Yk (Wn pos))) from fun u a =>
  have bk:∀ {g:Nat} {t:vz} {cs:Array vx},Blk w4 g t cs -> ¬F1 g -> Blk u g t cs:=fun k hg=>(a.block _ (Iz _ hg k.lt) k.lt).trans k
  ⟨bk kl nl,bk kt nt,bk kp np,bk kc nc,uB AG (Tl a KKB.out),o7 (Bi OWR (Tl a fun b h=>by have e:gr=b:=Za h;rw [<- e];exact HKM.out.2.2.2))⟩)
 have HSu:=zH (HS.out _ AG);have IG:=zH ho1;have Em:=zH MV;clear ma ib hgc Ux Iz lgr KF OWR nl nt np nr1 ho1 MV AG HS;have cl:=kl.cell;have ct:=kt.cell;have cp:=kp.cell;have cc:=kc.cell;go_wp2_with fail
 refine HSu.out.mono ?_;rintro e w5 ⟨rfl,Ya⟩;replace IG:=zH (IG.out.below Ya);replace Em:=zH (Em.out.trans (Qc Ya));have s45:=zH Ya.size;replace yk:=zH (Qd yk.out (Af Ya));clear kl kt kp kc cl ct cp cc Ya HSu nc;cases sb
 ·go_wp2
  go_ret
  exact ⟨F1,by rw [HR.out];rfl,by rw [HR.out];exact IG.out,Em.out⟩
 replace HR:=zH (HR.out.trans (Na rfl));have Tv:(q:Int) <= 64:=by have:=HQ.out;omega
 go_upto_region 7 with fail
 go_loopw [45] (fun y wr=>∃ i:Nat,i <= q /\ y=vd vq i /\ vA w5.1.size w5 wr /\ Hid (ku f q q=ku f q (q-i))) (fun y _=>q-(intOf y).toNat)
 case atStart=>exact ⟨0,Mb _,rfl,Ca _ _,zH rfl⟩
 case round =>
  obtain ⟨i,hi,rfl,Db,HI⟩:=hrel;have HW:=zH (Qd yk.out (Af Db));by_cases ta:i<q
  ·have Zb:=zH ta
   obtain ⟨kl,kt,kp,kc,ag,Ra⟩:=Yg HW.out;obtain ⟨b0,q0,e0,lb0,Lg⟩:=Jy Ra (by omega)
   have bM:gr=b0:=by injection e0 with e0;injection e0 with e1
   have jU:0=q0:=by injection e0 with e0;injection e0 with e1 e2
   subst bM jU;obtain ⟨z,hz⟩:∃ z:Nat,z=pos.getD i 0:=⟨_,rfl⟩;have kH:=(Lg i ta).trans (by rw [UU (by rw [Gn.out];exact ta),<- hz]:_=vE (vd vq z))
   rw [Lj] at kH;have Ms:=Qd HA.out ag;obtain ⟨bC,qC,B1,lq,Tp,eC,kbC,lbC,hcC,hrC⟩:=vM (AP (VE Ms fun u h=>h.2.2.cols)) (show i<P.cols.length by rw [HL.out.1];exact ta)
   have Cu:S.n4=q:=(Gj (Yg Ms).2.2.cols).1.symm.trans HL.out.1;obtain ⟨fi,iI⟩:=zEX (f i);have nh:=fun (u:vw) (hb:vA wr.1.size wr u)=>HCol.out i u (uB ag (Af hb)) B1 lq Tp (Bb hb (ak hrC))
   rw [<- iI,<- hz] at nh;have HCx:=zH nh;have HFI:=zH iI;have g1:(0:Int)<=i:=by omega
   have g2:(i:Int)<q:=by omega
   have g4:(i:Int)<S.n4:=by omega
   have cl:=kl.cell;have ct:=kt.cell;have cp:=kp.cell;have cc:=kc.cell;have l0:=kl.lt;have l1:=kt.lt;have l2:=kp.lt;have l3:=kc.lt;have HBr:=zH Db;clear kl kt kp kc Ra Lg e0 hz Ms Cu nh iI hrC kbC ta hi ag Db;generalize S.A4=S4 at eC cp |-;subst eC;go_upto_region 9 with fail
   refine zd (Ub) [15] [0,1,2,3,4,5,6,7,8,9,10,11,12,13,14,15,16] (by kernel_rfl) (by kernel_rfl) ?_
   refine Se (ra) ?_;intro Wc Ja ia;have Ka:=Tf Ja;refine Qb ?_;refine Bc (ra) rfl rfl rfl (fun _=>by go_simp <;> rfl) ((HCx.out _ Ka).mono ?_)
   rintro e w6 ⟨rfl,sc⟩;refine ⟨_,rfl,sc,?_⟩;replace ia:=(ra).trans _ _ _ ia (sc);refine zPU ?_;have HB6:=zH (pa (pa HBr.out Ka) sc);clear sc Ka;refine Qb ?_;refine Jc ?_;clear ia Ja cl ct cp cc l0 l1 l2 l3 hcC kH lb0 lbC HCx;cases fi
   ·have Tt:=zH (show r=(false,O1) by rw [HR.out,HI.out,AY f Zb.out,<- HFI.out];rfl)
    go_wp2;go_ret
    exact ⟨F1,by rw [Tt.out];rfl,by rw [Tt.out];exact IG.out.below HB6.out,Em.out.trans (Qc HB6.out)⟩
   ·have Cq:=zH (show ku f q q=ku f q (q-(i+1)) by rw [HI.out,AY f Zb.out,<- HFI.out];rfl)
    go_wp2
    go_roundw
    case rel=>exact ⟨i+1,Zb.out,by go_num,HB6.out,Cq⟩
    case measure=>have:=Zb.out;simp [intOf];omega
  ·obtain rfl:i=q:=by omega
   replace HR:=zH (HR.out.trans (Na (HI.out.trans (zBW f i))));replace IG:=zH (IG.out.below Db);replace Em:=zH (Em.out.trans (Qc Db));have KW:=zH (show ∀ b,KB b -> b<wr.1.size from fun b hb=>Kc (Il.out b hb).2 (xb s45.out Db.size))
   clear Db HI hi ta yk HCol s45;obtain ⟨wo,rfl⟩:=zEX (wr);go_upto_region 13 with fail
   go_loopw [70] (fun y wx=>∃ (k:Nat) (Fr:Nat -> Prop) (Oc:Ha),k <= i /\ y=vd vq k /\ OrcAt wx g Oc Fr /\ Moved F1 Fr wo wx /\ Hid (pc Oc (101000+11*k)) /\ Hid (xp v o i i O1=xp v o i (i-k) Oc)) (fun y _=>i-(intOf y).toNat)
   case atStart=>exact ⟨0,F1,O1,Mb _,rfl,IG.out,Moved.refl,zH Wy.out,zH rfl⟩
   case round =>
    obtain ⟨k,Fr,Oc,hk,rfl,eU,hmv,Vy,HI⟩:=hrel;have HOr:=zH eU;have HMx:=zH hmv;by_cases ta:k<i
    ·have Zb:=zH ta
     have HWx:=zH (Qd HW.out (Ek hmv fun b hb=>(Il.out b hb).1))
     have HKr:=zH (show ∀ b,KB b -> b<wr.1.size /\ ¬Fr b from fun b hb=>⟨Kc (KW.out b hb) hmv.size,Sd hmv (KW.out b hb) (Il.out b hb).1⟩)
     obtain ⟨kl,kt,kp,kc,ag,Ra⟩:=Yg HWx.out;obtain ⟨b0,q0,e0,lb0,Lg⟩:=Jy Ra (by omega)
     have bM:gr=b0:=by injection e0 with e0;injection e0 with e1
     have jU:0=q0:=by injection e0 with e0;injection e0 with e1 e2
     subst bM jU;have Ms:=Qd HA.out ag;obtain ⟨bC,qC,B1,lq,Tp,eC,kbC,lbC,hcC,hrC⟩:=vM (AP (VE Ms fun u h=>h.2.2.cols)) (show k<P.cols.length by rw [HL.out.1];exact ta)
     obtain ⟨bP,qP,B2,XC,AB,eP,kbP,lbP,hcP,hrP⟩:=vM (AP (VE Ms fun u h=>h.2.2.paths)) (show k<P.paths.length by rw [HL.out.2.2];exact ta)
     obtain ⟨hl5,bS,qS,eS,kbS,lbS,hcS⟩:=XZ (VE Ms fun u h=>h.2.2.salts) (show k<P.salts.length by rw [HL.out.2.1];exact ta)
     have Cu:S.n4=i:=(Gj (Yg Ms).2.2.cols).1.symm.trans HL.out.1;have hn6:S.n6=i:=(Gj (Yg Ms).2.2.paths).1.symm.trans HL.out.2.2;have hn5:S.n5=i:=hl5.trans HL.out.2.1;have DF:=fun (u:vw) (ho:OrcAt u g Oc Fr) (h1:Ue K u (ve B1 lq Tp) (P.cols.getD k [])) (h2:Ue K u (ve B2 XC AB) (P.paths.getD k [])) (hk:∀ b,K b -> b<u.1.size /\ ¬Fr b)=>HVer.out k u Oc Fr K ta ho (uf Vy.out (by have:=HQ.out;omega)) B1 B2 lq Tp XC AB h1 h2 hk
     obtain ⟨z,hz⟩:∃ z:Nat,z=pos.getD k 0:=⟨_,rfl⟩;obtain ⟨sz,ib⟩:∃ sz:Nat,sz=P.salts.getD k 0:=⟨_,rfl⟩;obtain ⟨vk,hvk⟩:=zEX (v Oc k);have kH:=(Lg k ta).trans (by rw [UU (by rw [Gn.out];exact ta),<- hz]:_=vE (vd vq z))
     rw [Lj] at kH;rw [<- hvk,<- hz,<- ib] at DF;rw [<- ib] at hcS;have HVx:=zH DF;have HVK:=zH hvk;have HRC:=zH hrC;have HRP:=zH hrP;have g1:(0:Int)<=k:=by omega
     have g2:(k:Int)<i:=by omega
     have g4:(k:Int)<S.n4:=by omega
     have g5:(k:Int)<S.n5:=by omega
     have g6:(k:Int)<S.n6:=by omega
     obtain ⟨NR,PB⟩:=zEX (wr.1.size);have HNR:=zH PB;have fr0:=(HKr.out _ HKM.out.2.1).2;have fr1:=(HKr.out _ (KKB.out _ kbC)).2;have fr2:=(HKr.out _ (KKB.out _ kbP)).2;have fr3:=(HKr.out _ (KKB.out _ kbS)).2;have r0:w.1.size+1+1<NR:=by rw [PB];exact kp.lt
     have r1:bC<NR:=by rw [PB];exact lbC
     have r2:bP<NR:=by rw [PB];exact lbP
     have r3:bS<NR:=by rw [PB];exact lbS
     have cp:=kp.cell;clear kl kt kp kc Ra Lg e0 hz ib Ms Cu hn5 hn6 hl5 DF hvk hrC hrP kbC kbP kbS lbC lbP lbS ta hk ag hmv eU PB;have eC':=zH eC;have eP':=zH eP;have eS':=zH eS;rw [eC,eP,eS] at cp;clear eC eP eS;go_upto_region 15 with fail
     refine cL (Fr) (Fr) (NR) [17] [0,1,2,3,4,5,6,7,8,9,10,11,12,13,14,15] [(16,274,#[ve vD 0 0,vd vn 0,ve vD 0 0])] [17] (by kernel_rfl) (Hf.2 ⟨⟨_,rfl,rfl,fun a w=>by go_simp <;> rfl⟩,oB _⟩) (by kernel_rfl) ?_
     refine gL ?_;intro Wc Ja ia;have Yb:Hid (zn Fr NR Fr Wc):=zH (by rw [Ja.out,HNR.out];exact ⟨zR,HOr.out.lt,fun _ _ h=>h⟩)
     have HOq:=zH (show OrcAt Wc g Oc Fr by rw [Ja.out];exact HOr.out.drew)
     have HBq:=zH (show vA wr.1.size wr Wc by rw [Ja.out];exact (Ca _ _).drew)
     clear Ja;refine Ow ?_;refine eL [(vE 17,16)] rfl Yb (fun Hz wE df Uo=>?_)
     have aT:=Uo.blk _ (.head _) rfl;clear Uo;unfold Nh Yn;simp only [List.foldl];dsimp only at aT
     generalize Hz 16=g16 at aT  |-;obtain ⟨k16,hg16,hv16⟩:=aT;replace HOq:=zH (HOq.out.below df);replace HBq:=zH (pa HBq.out df);replace ia:=(Cc Fr NR).trans _ _ _ ia (Sj df Yb.out.size);replace Yb:=zH (su Yb.out df)
     refine zPU ?_
     clear df;have c16:=k16.cell;have f16:=k16.frozen;refine Lr ?_;refine ef (Cc Fr NR) rfl rfl rfl ?_;go_simp;refine ⟨Sj (mW hg16 [ve B1 lq Tp,vd vn sz,ve B2 XC AB] 0 _) zR,?_⟩
     refine zPU ?_
     obtain ⟨wG,hwG,kP,sP⟩:=store3 k16 (ve B1 lq Tp) (vd vn sz) (ve B2 XC AB);rw [hwG];have HOz:=zH (HOq.out.keep (Nat.le_of_eq sP.size.symm) fun b hb=>sP.far b fun e=>by have h1:=HOr.out.lt b hb;have h2:=HNR.out;omega)
     have HBz:=zH (sP.below HBq.out (by have:=HNR.out;omega))
     clear hwG c16 f16 ia Yb k16 sP HOq HBq hg16 hv16;have ia:=(Cc Fr NR).refl wG;refine Lr ?_;refine Jc ?_;clear ia cp hcC hcP hcS kH r0 r1 r2 r3 fr0 fr1 fr2 fr3 lb0;have HWz:=Qd HWx.out (Af HBz.out);obtain ⟨kl,kt,kp,kc,ag,Ra⟩:=Yg HWz;have XD:=zH (HVx.out wG HOz.out (dn HRC.out HBz.out) (dn HRP.out HBz.out) fun b hb=>⟨Kc (HKr.out b (KKB.out b hb)).1 HBz.out.size,(HKr.out b (KKB.out b hb)).2⟩)
     have cl:=kl.cell;have cp:=kp.cell;have c16:=kP.cell;clear kl kt kp kc ag Ra HWz kP HVx;go_wp2_with fail
     refine XD.out.mono ?_;rintro e w6 ⟨F2,rfl,ho2,mo2⟩;have Jl:=zH ho2;have HM2:=zH (HMx.out.trans ((Qc HBz.out).trans mo2));clear ho2 mo2 cl cp c16 XD;cases vk
     ·have Tt:=zH (show r=(false,o Oc k) by rw [HR.out,HI.out,Q6 v o Zb.out,<- HVK.out];rfl)
      go_wp2;go_ret
      exact ⟨F2,by rw [Tt.out];rfl,by rw [Tt.out];exact Jl.out,Em.out.trans HM2.out⟩
     ·have Cq:=zH (show xp v o i i O1=xp v o i (i-(k+1)) (o Oc k) by rw [HI.out,Q6 v o Zb.out,<- HVK.out];rfl)
      have HLE2:=zH (show pc (o Oc k) (101000+11*(k+1)) from uf (HOL.out _ _ _ Vy.out) (by omega))
      go_wp2
      go_roundw
      case rel=>exact ⟨k+1,F2,o Oc k,Zb.out,by go_num,Jl.out,HM2.out,HLE2,Cq⟩
      case measure=>have:=Zb.out;simp [intOf];omega
    ·obtain rfl:k=i:=by omega
     have Tt:=zH (show r=(true,Oc) from HR.out.trans (HI.out.trans (zE1 v o k Oc)))
     clear ta hk hmv eU HI;go_wp2;go_ret
     exact ⟨Fr,by rw [Tt.out];rfl,by rw [Tt.out];exact HOr.out,Em.out.trans HMx.out⟩
def oA (p:Nat) (pub vars:Int) (rows:List Ua) (bl bw qs:Int):Ma:=ZP ⟨p,pub,vars,rows.length,bl,bw,qs⟩
def sG (O:Ha) (p:Nat) (pub vars:Int) (rows:List Ua) (bl bw qs:Int) (l:List Nat) (P:se):Int × Ha :=
 if Ul p pub vars rows bl bw qs l≠0 then (Ul p pub vars rows bl bw qs l,O)
 else (if (Mj O (oA p pub vars rows bl bw qs) (oA p pub vars rows bl bw qs).n.log2 pub.toNat (Cf p pub vars rows) rows l P).1 then 0 else 10,(Mj O (oA p pub vars rows bl bw qs) (oA p pub vars rows bl bw qs).n.log2 pub.toNat (Cf p pub vars rows) rows l P).2)
theorem cZ {p:Nat} {pub vars:Int} {rows:List Ua} {bl bw qs:Int} {l:List Nat} {L:Ma} (h:Ry p pub vars rows bl bw qs l L):Ul p pub vars rows bl bw qs l=0:=dZ (YP h.tab h.lfor) ⟨h.len,h.lt⟩
theorem iR {O:Ha} {p j pu:Nat} {vars:Int} {rows:List Ua} {bl bw qs:Int} {l:List Nat} {P:se} {L:Ma} (h:Ry p (pu:Int) vars rows bl bw qs l L) (hn:L.n=2^j) :
  sG O p (pu:Int) vars rows bl bw qs l P=(if (Mj O L j pu (Cf p (pu:Int) vars rows) rows l P).1 then 0 else 10,(Mj O L j pu (Cf p (pu:Int) vars rows) rows l P).2):=by
 have e:oA p (pu:Int) vars rows bl bw qs=L:=h.lfor.eq.symm;unfold sG;rw [ya (fun k=>k (cZ h)),e,hn,rz,Bk]
theorem zAH {O:Ha} {p:Nat} {pub vars:Int} {rows:List Ua} {bl bw qs:Int} {l:List Nat} {P:se} (h:Ul p pub vars rows bl bw qs l≠0):sG O p pub vars rows bl bw qs l P=(Ul p pub vars rows bl bw qs l,O):=Na h
theorem u7 {w:vw} {g:Nat} {O:Ha} {F K:Nat -> Prop} (h:OrcAt w g O F) (L:Ma) (j pu:Nat) (vars bl bw qs:Int) (A B:Option vy) (n c m d:Nat) (rows:List Ua) (pb:List Nat) (P:se) (S:PS)
  (hX:Ry L.p (pu:Int) vars rows bl bw qs pb L) (hn:L.n=2^j) (hS:bH rows) (ht:L.a+3*L.b <= 40)
  (hA:Hd K w fun u=>RSl 3 Ud u [ve A n c] rows /\ RWd u [ve B m d] pb /\ gh u P S) (hK:∀ b,K b -> b<w.1.size /\ ¬F b) (hO:pc O 100000) (r:Int × Ha)
  (hr:r=(if (Mj O L j pu (Cf L.p (pu:Int) vars rows) rows pb P).1 then 0 else 10,(Mj O L j pu (Cf L.p (pu:Int) vars rows) rows pb P).2)) :
  vB prog 83 #[.pointer (vE ⟨g,0,vD⟩),vf (jb L),Tb L.p (pu:Int) vars (ve A n c),ve B m d,vf (Od P S)] w fun e w' =>
   ∃ rb F',e=vl (.bool rb) /\ r.1=(if rb then 0 else 10) /\ OrcAt w' g r.2 F' /\ Moved F F' w w':=by
 refine (zFm h L j pu vars bl bw qs A B n c m d rows pb P S hX hn (EY hX.tab hS) ht hA hK hO).mono ?_;rintro e w' ⟨F',rfl,h1,h2⟩;subst hr;exact ⟨_,F',rfl,rfl,h1,h2⟩
theorem lV {w:vw} {g:Nat} {O:Ha} {F K:Nat -> Prop} (h:OrcAt w g O F) (p:Nat) (pub vars bl bw qs:Int) (A B:Option vy) (n c m d:Nat) (rows:List Ua) (l:List Nat) (P:se) (S:PS)
  (hS:bH rows) (hR:∀ L,Lb L -> mi L ⟨p,pub,vars,rows.length,bl,bw,qs⟩ -> L.a+3*L.b <= 40)
  (hA:Hd K w fun u=>RSl 3 Ud u [ve A n c] rows /\ RWd u [ve B m d] l /\ gh u P S) (hK:∀ b,K b -> b<w.1.size /\ ¬F b) (hO:pc O 100000) :
  vB prog 23 #[.pointer (vE ⟨g,0,vD⟩),Tb p pub vars (ve A n c),vf #[vd vq bl,vd vq bw,vd vq qs],ve B m d,vf (Od P S)] w fun e w' =>
   ∃ F',e=vl (vd vq (sG O p pub vars rows bl bw qs l P).1) /\ OrcAt w' g (sG O p pub vars rows bl bw qs l P).2 F' /\ Moved F F' w w':=by
 obtain ⟨kt,kx,kp,da,-⟩:=Sp w 25 27 46 #[vd vn p,vd vq pub,vd vq vars,ve A n c] #[vd vq bl,vd vq bw,vd vq qs] (Od P S);have MD:=zH (fun u (hb:vA w.1.size w u)=>F7 p pub vars A B n c m d rows l bl bw qs u (Bi hA (Af hb)).1 (Bi hA (Af hb)).2.1)
 obtain ⟨r,hr⟩:=zEX (sG O p pub vars rows bl bw qs l P);rw [<- hr];have H:=zH h;have XA:=zH (fun k=>(hr.trans (zAH k)))
 have ia:∀ (L:Ma) (j pu:Nat),pub=(pu:Int) -> p=L.p -> Ry p pub vars rows bl bw qs l L -> L.n=2^j -> ∀ (u:vw),vA w.1.size w u -> vB prog 83 #[.pointer (vE ⟨g,0,vD⟩),vf (jb L),Tb p pub vars (ve A n c),ve B m d,vf (Od P S)] u fun e w' =>
   ∃ rb F',e=vl (.bool rb) /\ r.1=(if rb then 0 else 10) /\ OrcAt w' g r.2 F' /\ Moved F F' u w':=by
  intro L j pu epu ep hX hn u hb;subst epu ep;exact u7 (h.below hb) L j pu vars bl bw qs A B n c m d rows l P S hX hn hS (hR L hX.ok hX.lfor) (Qd hA (Af hb)) (fun b hk=>⟨Kc (hK b hk).1 hb.size,(hK b hk).2⟩) hO r (hr.trans (iR hX hn))
 have Ou:=zH ia;clear hr hA hK hO hS hR h ia;unfold Od Tb at *;go_enter func23,ntmps23
 go_upto_region 1 with fail
 generalize ((w.alloc _).alloc _).alloc _=w1 at kt kx kp da |-;have ct:=kt.cell;have cx:=kx.cell;go_wp2_with fail
 refine (MD.out _ da).mono ?_;rintro e w2 ⟨⟨y0,y1,y2,y3,y4,y5,y6,y7,y8,y9,Xd,rfl,hy⟩,Ba⟩;obtain ⟨ee,hee⟩:=zEX (Ul p pub vars rows bl bw qs l);rw [<- hee] at hy XA |-;replace kt:=ja kt Ba;replace kp:=ja kp Ba;replace da:=pa da Ba;clear Ba ct cx MD kx hee;have ma:=(Ca w2.1.size w2).alloc zR (.cells #[vd vn y0,vd vq y1,vd vq y2,vd vq y3,vd vq y4,vd vq y5,vd vq y6,vd vq y7,vd vq y8,vd vq y9,vd vq Xd] 101);have kl:=Blk.new w2 101 #[vd vn y0,vd vq y1,vd vq y2,vd vq y3,vd vq y4,vd vq y5,vd vq y6,vd vq y7,vd vq y8,vd vq y9,vd vq Xd];replace kt:=ja kt ma;replace kp:=ja kp ma;replace da:=pa da ma;clear ma;by_cases hz:ee=0
 rotate_left
 ·have HR:=zH (XA.out hz)
  have d1:(ee != (0:Int))=true:=Bf.2 hz;clear hz hy Ou XA kt kp kl;go_wp2_with fail
  generalize w2.alloc _=w3 at da |-;go_ret
  exact ⟨F,by rw [HR.out];rfl,by rw [HR.out];exact H.out.below da,Qc da⟩
 obtain ⟨L,hX,Vx⟩:=hy hz;obtain ⟨rfl,rfl,rfl,rfl,rfl,rfl,rfl,rfl,rfl,rfl,rfl⟩:=DP Vx;obtain ⟨j,hj⟩:=hX.ok.n;have LH:=Ou.out L j pub.toNat (by have:=hX.len;omega) hX.lfor.p.symm hX hj
 unfold jb at LH;have HAc:=zH LH;clear hX Vx hy hj LH Ou XA;subst hz;go_upto_region 2 with fail
 generalize w2.alloc _=w3 at da kl kt kp |-;generalize w2.1.size=gl at kl |-;have cl:=kl.cell;have ct:=kt.cell;have cp:=kp.cell;go_wp2_with fail
 refine (HAc.out _ da).mono ?_;rintro e w4 ⟨rb,F',rfl,Xq,ho,hm⟩;have HM:=zH ((Qc (F:=F) da).trans hm);have HO:=zH ho;have az:=zH Xq;clear ho hm Xq cl ct cp kl kt kp HAc;cases rb
 ·go_wp2
  go_ret
  exact ⟨F',by rw [show r.1=_ from az.out];rfl,HO.out,HM.out⟩
 ·go_wp2
  go_ret
  exact ⟨F',by rw [show r.1=_ from az.out];rfl,HO.out,HM.out⟩
def vbE (O:Ha) (p:Nat) (pub vars:Int) (rows:List Ua) (bl bw qs:Int) (l b:List Nat):Int × Ha :=
 if Ul p pub vars rows bl bw qs l≠0 then (Ul p pub vars rows bl bw qs l,O)
 else if (Et (oA p pub vars rows bl bw qs) (oA p pub vars rows bl bw qs).n.log2 b).2≠0 then (10,O)
 else sG O p pub vars rows bl bw qs l (Et (oA p pub vars rows bl bw qs) (oA p pub vars rows bl bw qs).n.log2 b).1
theorem zIf {O:Ha} {p:Nat} {pub vars:Int} {rows:List Ua} {bl bw qs:Int} {l b:List Nat} (h:Ul p pub vars rows bl bw qs l≠0):vbE O p pub vars rows bl bw qs l b=(Ul p pub vars rows bl bw qs l,O):=Na h
theorem TW {O:Ha} {p j pu:Nat} {vars:Int} {rows:List Ua} {bl bw qs:Int} {l b:List Nat} {L:Ma} (h:Ry p (pu:Int) vars rows bl bw qs l L) (hn:L.n=2^j) :
  vbE O p (pu:Int) vars rows bl bw qs l b=if (Et L j b).2≠0 then (10,O) else (if (Mj O L j pu (Cf p (pu:Int) vars rows) rows l (Et L j b).1).1 then 0 else 10,(Mj O L j pu (Cf p (pu:Int) vars rows) rows l (Et L j b).1).2):=by
 have e:oA p (pu:Int) vars rows bl bw qs=L:=h.lfor.eq.symm;unfold vbE;rw [ya (fun k=>k (cZ h)),e,hn,rz,iR h hn]
theorem zFM {w:vw} {g:Nat} {O:Ha} {F K:Nat -> Prop} (h:OrcAt w g O F) (p:Nat) (pub vars bl bw qs:Int) (A B C:Option vy) (n c m d nb cb:Nat) (rows:List Ua) (l b:List Nat)
  (hS:bH rows) (hR:∀ L,Lb L -> mi L ⟨p,pub,vars,rows.length,bl,bw,qs⟩ -> L.a+3*L.b <= 40)
  (hA:Hd K w fun u=>RSl 3 Ud u [ve A n c] rows /\ RWd u [ve B m d] l /\ Rd u 1 C nb (U8 b)) (Ld:nb <= cb) (Xl:cb <= maxLen) (Cu:nb <= 1000000) (Xp:∀ x∈b,x<256) (hK:∀ b,K b -> b<w.1.size /\ ¬F b) (hO:pc O 100000) :
  vB prog 36 #[.pointer (vE ⟨g,0,vD⟩),Tb p pub vars (ve A n c),vf #[vd vq bl,vd vq bw,vd vq qs],ve B m d,ve C nb cb] w fun e w' =>
   ∃ F',e=vl (vd vq (vbE O p pub vars rows bl bw qs l b).1) /\ OrcAt w' g (vbE O p pub vars rows bl bw qs l b).2 F' /\ Moved F F' w w':=by
 obtain ⟨kt,kx,da,-⟩:=Eh w 25 27 #[vd vn p,vd vq pub,vd vq vars,ve A n c] #[vd vq bl,vd vq bw,vd vq qs];have MD:=zH (fun u (hb:vA w.1.size w u)=>F7 p pub vars A B n c m d rows l bl bw qs u (Bi hA (Af hb)).1 (Bi hA (Af hb)).2.1)
 obtain ⟨r,hr⟩:=zEX (vbE O p pub vars rows bl bw qs l b);rw [<- hr];have H:=zH h;have XA:=zH (fun k=>(hr.trans (zIf k)))
 have rR:=zH (fun (L:Ma) (j:Nat) (hL:Lb L) (hn:L.n=2^j) (u:vw) (hb:vA w.1.size w u)=>zFt L j C nb cb b u hL hn (JK hn hL.n2) (Bi hA (Af hb)).2.2 Ld Xl Cu Xp)
 have HNo:=zH (fun (L:Ma) (j pu:Nat) (epu:pub=(pu:Int)) (hX:Ry p pub vars rows bl bw qs l L) (hn:L.n=2^j) (D:se × Int) (hD:D=Et L j b) (h2:D.2≠0)=>show r=(10,O) by
  subst epu hD;rw [hr,TW hX hn,Na h2])
 have ia:∀ (L:Ma) (j pu:Nat),pub=(pu:Int) -> p=L.p -> Ry p pub vars rows bl bw qs l L -> L.n=2^j -> ∀ (D:se × Int),D=Et L j b -> D.2=0 -> ∀ (S:PS) (v u:vw),vA w.1.size w v -> Hd (fun b=>v.1.size <= b) u (fun u=>gh u D.1 S) -> vA v.1.size v u ->
   vB prog 83 #[.pointer (vE ⟨g,0,vD⟩),vf (jb L),Tb p pub vars (ve A n c),ve B m d,vf (Od D.1 S)] u fun e w'=>∃ rb F',e=vl (.bool rb) /\ r.1=(if rb then 0 else 10) /\ OrcAt w' g r.2 F' /\ Moved F F' u w':=by
  intro L j pu epu ep hX hn D hD h2 S v u hv hp hb;subst epu ep;have hbu:=pa hv hb;refine u7 (K:=fun b=>K b \/ (v.1.size <= b /\ b<u.1.size)) (h.below hbu) L j pu vars bl bw qs A B n c m d rows l D.1 S hX hn hS (hR L hX.ok hX.lfor) (fun x a=>?_) (fun b hk=>?_) hO r ?_
  ·have h1:=Bi hA (uB (Af hbu) (Tl a fun b hb=>.inl hb))
   exact ⟨h1.1,h1.2.1,YZ hp x (Tl a fun b hb=>.inr hb)⟩
  ·rcases hk with hk | hk
   ·exact ⟨Kc (hK b hk).1 hbu.size,(hK b hk).2⟩
   ·exact ⟨hk.2,fun e=>by have:=h.lt b e;have:=hv.size;omega⟩
  ·have hq:=hr.trans (TW hX hn)
   rw [<- hD,ya (fun k=>k h2)] at hq
   exact hq
 have Ou:=zH ia;clear ia hr hA hK hO hS hR h Ld Xl Cu Xp;unfold Tb at *;go_enter func36,ntmps36
 go_upto_region 1 with fail
 generalize (w.alloc _).alloc _=w1 at kt kx da |-;have ct:=kt.cell;have cx:=kx.cell;go_wp2_with fail
 refine (MD.out _ da).mono ?_;rintro e w2 ⟨⟨y0,y1,y2,y3,y4,y5,y6,y7,y8,y9,Xd,rfl,hy⟩,Ba⟩;obtain ⟨ee,hee⟩:=zEX (Ul p pub vars rows bl bw qs l);rw [<- hee] at hy XA |-;replace kt:=ja kt Ba;replace da:=pa da Ba;clear Ba ct cx MD kx hee;have ma:=(Ca w2.1.size w2).alloc zR (.cells #[vd vn y0,vd vq y1,vd vq y2,vd vq y3,vd vq y4,vd vq y5,vd vq y6,vd vq y7,vd vq y8,vd vq y9,vd vq Xd] 101);have kl:=Blk.new w2 101 #[vd vn y0,vd vq y1,vd vq y2,vd vq y3,vd vq y4,vd vq y5,vd vq y6,vd vq y7,vd vq y8,vd vq y9,vd vq Xd];replace kt:=ja kt ma;replace da:=pa da ma;clear ma;by_cases hz:ee=0
 rotate_left
 ·have HR:=zH (XA.out hz)
  have d1:(ee != (0:Int))=true:=Bf.2 hz;clear hz hy Ou XA kt kl HNo rR;go_wp2_with fail
  generalize w2.alloc _=w3 at da |-;go_ret
  exact ⟨F,by rw [HR.out];rfl,by rw [HR.out];exact H.out.below da,Qc da⟩
 obtain ⟨L,hX,Vx⟩:=hy hz;obtain ⟨rfl,rfl,rfl,rfl,rfl,rfl,rfl,rfl,rfl,rfl,rfl⟩:=DP Vx;obtain ⟨j,hj⟩:=hX.ok.n;obtain ⟨D,hD⟩:=zEX (Et L j b);have LH:=Ou.out L j pub.toNat (by have:=hX.len;omega) hX.lfor.p.symm hX hj D hD
 have hDe:=rR.out L j hX.ok hj;rw [<- hD] at hDe;have HNO:=zH (HNo.out L j pub.toNat (by have:=hX.len;omega) hX hj D hD)
 unfold jb at LH hDe;have HAc:=zH LH;have HDe:=zH hDe;clear hX Vx hy hj LH Ou XA hDe rR HNo hD;subst hz;go_upto_region 2 with fail
 generalize w2.alloc _=w3 at da kl kt |-;generalize w2.1.size=gl at kl |-;have cl:=kl.cell;go_wp2_with fail
 refine (HDe.out _ da).mono ?_;rintro e w4 ⟨S,rfl,hp,Ab⟩;have HP:=zH (show Hd (fun b=>w3.1.size <= b) w4 fun u=>gh u D.1 S from fun u a=>hp u a.size fun b h1 h2=>a.block b h1 h2)
 have HB3:=zH da;have HB4:=zH Ab;obtain ⟨P,D2⟩:=D;unfold Od at *;have ma:=(Ca w4.1.size w4).alloc zR (.cells #[vd vn P.root,ve S.A1 S.n1 S.c1,ve S.A2 S.n2 S.c2,ve S.A3 S.n3 S.c3,ve S.A4 S.n4 S.c4,ve S.A5 S.n5 S.c5,ve S.A6 S.n6 S.c6] 46);have kp:=Blk.new w4 46 #[vd vn P.root,ve S.A1 S.n1 S.c1,ve S.A2 S.n2 S.c2,ve S.A3 S.n3 S.c3,ve S.A4 S.n4 S.c4,ve S.A5 S.n5 S.c5,ve S.A6 S.n6 S.c6];have HZ:=zH (pa Ab ma);replace kl:=ja kl Ab;replace kt:=ja kt Ab;replace kl:=ja kl ma;replace kt:=ja kt ma;have HPz:=zH (Qd HP.out (Af ma));clear hp Ab ma cl da HDe HP HB4;go_upto_region 5 with fail
 generalize w4.alloc _=w5 at kp HZ HPz kl kt |-;generalize w4.1.size=gp at kp |-;have HBZ:=zH (pa HB3.out HZ.out);by_cases hz:D2=0
 ·have hac:=fun rfl=>HAc.out rfl S w3 w5 HB3.out HPz.out HZ.out
  have HAz:=zH (hac hz);subst hz;clear hac HAc HNO HPz;have cl:=kl.cell;have ct:=kt.cell;have cp:=kp.cell;go_wp2_with fail
  refine HAz.out.mono ?_;rintro e w6 ⟨rb,F',rfl,Xq,ho,hm⟩;have HM:=zH ((Qc (F:=F) HBZ.out).trans hm);have HO:=zH ho;have az:=zH Xq;clear ho hm Xq cl ct cp kl kt kp HAz;cases rb
  ·go_wp2
   go_ret
   exact ⟨F',by rw [show r.1=_ from az.out];rfl,HO.out,HM.out⟩
  ·go_wp2
   go_ret
   exact ⟨F',by rw [show r.1=_ from az.out];rfl,HO.out,HM.out⟩
 ·have HR:=zH (HNO.out hz)
  have d1:(D2 != (0:Int))=true:=Bf.2 hz;clear hz HAc HNO kl kt kp HPz;go_wp2;go_ret
  exact ⟨F,by rw [HR.out];rfl,by rw [HR.out];exact H.out.below HBZ.out,Qc HBZ.out⟩
section
variable {L:Ma} {j pu:Nat} {C:CoR} {vars:Int} {rows:List Ua} {ws:List Nat} {bl bw qs:Int} {O Z:Ha} {k:Nat}
theorem XS (hL:Lb L) (oe:mi L ⟨L.p,(pu:Int),vars,rows.length,bl,bw,qs⟩) (hT:Vu L.p (pu:Int) vars rows ws true):Ry L.p (pu:Int) vars rows bl bw qs ((ws.drop 1).take pu) L where
 tab:=hT.tab
 len:=by
  obtain ⟨Pk,-,-⟩:=IJ hT.asg;have:=oe.vars;simp only at this;rw [Ru,Im];omega
 lt:=by
  obtain ⟨-,-,nm⟩:=IJ hT.asg;rw [fe];exact fun y hy=>fe.1 nm y (List.mem_of_mem_drop (List.mem_of_mem_take hy))
 ok:=hL
 lfor:=oe
theorem eT (oe:mi L ⟨L.p,(pu:Int),vars,rows.length,bl,bw,qs⟩) (ht:L.a+3*L.b <= 40):∀ L',Lb L' -> mi L' ⟨L.p,(pu:Int),vars,rows.length,bl,bw,qs⟩ -> L'.a+3*L'.b <= 40:=fun L' _ h=>by rw [h.eq,<- oe.eq];exact ht
theorem bV (hL:Lb L) (hn:L.n=2^j) (hO:du O k) (hk:k <= 1000):pc ((yh L j pu vars rows ws C).oF O) 100000:=by
 have Vd:=hL.n2;have Eu:=hL.q2;refine uf (oF_le (yh L j pu vars rows ws C) O hn hO.le) ?_;show k+1+2*L.n+4+1+L.queries <= 100000
 omega
end
theorem zAG {w:vw} {g:Nat} {O Z:Ha} {F K:Nat -> Prop} {k:Nat} (h:OrcAt w g Z F) (L:Ma) (j pu:Nat) (C:CoR) (vars bl bw qs:Int) (A B:Option vy) (n c m d:Nat) (rows:List Ua) (ws:List Nat) (S:PS)
  (hL:Lb L) (hn:L.n=2^j) (oe:mi L ⟨L.p,(pu:Int),vars,rows.length,bl,bw,qs⟩) (ht:L.a+3*L.b <= 40) (hT:Vu L.p (pu:Int) vars rows ws true) (hC:C.ok L=true) (hO:du O k) (hZ:Pd ((yh L j pu vars rows ws C).oF O) Z)
  (hA:Hd K w fun u=>RSl 3 Ud u [ve A n c] rows /\ RWd u [ve B m d] ((ws.drop 1).take pu) /\ gh u ((yh L j pu vars rows ws C).pr O) S) (hK:∀ b,K b -> b<w.1.size /\ ¬F b) (hZl:pc Z 100000) :
  vB prog 23 #[.pointer (vE ⟨g,0,vD⟩),Tb L.p (pu:Int) vars (ve A n c),vf #[vd vq bl,vd vq bw,vd vq qs],ve B m d,vf (Od ((yh L j pu vars rows ws C).pr O) S)] w fun e w' =>
   ∃ F',e=vl (vd vq 0) /\ OrcAt w' g Z F' /\ Moved F F' w w':=by
 have hv:=lV h L.p (pu:Int) vars bl bw qs A B n c m d rows ((ws.drop 1).take pu) _ S hT.small (eT oe ht) hA hK hZl;rw [iR (XS hL oe hT) hn,wX hL hn oe hT hC hO hZ] at hv;exact hv
theorem zIh {w:vw} {g:Nat} {O Z:Ha} {F K:Nat -> Prop} {k:Nat} (h:OrcAt w g Z F) (L:Ma) (j pu:Nat) (C:CoR) (vars bl bw qs:Int) (A B:Option vy) (n c m d:Nat) (rows:List Ua) (ws:List Nat) (S:PS)
  (hL:Lb L) (hn:L.n=2^j) (oe:mi L ⟨L.p,(pu:Int),vars,rows.length,bl,bw,qs⟩) (ht:L.a+3*L.b <= 40) (hT:Vu L.p (pu:Int) vars rows ws true) (hC:C.ok L=true) (hO:du O k) (hR:Vc O) (hZ:Vc Z)
  (hA:Hd K w fun u=>RSl 3 Ud u [ve A n c] rows /\ RWd u [ve B m d] ((ws.drop 1).take pu) /\ gh u ((yh L j pu vars rows ws C).pr O) S) (hK:∀ b,K b -> b<w.1.size /\ ¬F b) (hZl:pc Z 100000) :
  vB prog 23 #[.pointer (vE ⟨g,0,vD⟩),Tb L.p (pu:Int) vars (ve A n c),vf #[vd vq bl,vd vq bw,vd vq qs],ve B m d,vf (Od ((yh L j pu vars rows ws C).pr O) S)] w fun e w' =>
   ∃ F' Z',e=vl (vd vq 0) /\ OrcAt w' g Z' F' /\ Moved F F' w w':=by
 have hv:=lV h L.p (pu:Int) vars bl bw qs A B n c m d rows ((ws.drop 1).take pu) _ S hT.small (eT oe ht) hA hK hZl;rw [iR (XS hL oe hT) hn,real_x hL hn oe hT hC hO hR hZ] at hv;exact hv.mono fun e w' ⟨F',h1,h2,h3⟩=>⟨F',_,h1,h2,h3⟩
theorem zIg {w:vw} {g:Nat} {O Z:Ha} {F K:Nat -> Prop} {k:Nat} (h:OrcAt w g Z F) (L:Ma) (j pu:Nat) (C:CoR) (vars bl bw qs:Int) (A B D:Option vy) (n c m d nb cb:Nat) (rows:List Ua) (ws b:List Nat)
  (hL:Lb L) (hn:L.n=2^j) (oe:mi L ⟨L.p,(pu:Int),vars,rows.length,bl,bw,qs⟩) (ht:L.a+3*L.b <= 40) (hT:Vu L.p (pu:Int) vars rows ws true) (hC:C.ok L=true) (hO:du O k) (hZ:Pd ((yh L j pu vars rows ws C).oF O) Z) (hb:Et L j b=((yh L j pu vars rows ws C).pr O,0))
  (hA:Hd K w fun u=>RSl 3 Ud u [ve A n c] rows /\ RWd u [ve B m d] ((ws.drop 1).take pu) /\ Rd u 1 D nb (U8 b)) (Ld:nb <= cb) (Xl:cb <= maxLen) (Cu:nb <= 1000000) (Xp:∀ x∈b,x<256) (hK:∀ b,K b -> b<w.1.size /\ ¬F b) (hZl:pc Z 100000) :
  vB prog 36 #[.pointer (vE ⟨g,0,vD⟩),Tb L.p (pu:Int) vars (ve A n c),vf #[vd vq bl,vd vq bw,vd vq qs],ve B m d,ve D nb cb] w fun e w' =>
   ∃ F',e=vl (vd vq 0) /\ OrcAt w' g Z F' /\ Moved F F' w w':=by
 have hv:=zFM h L.p (pu:Int) vars bl bw qs A B D n c m d nb cb rows ((ws.drop 1).take pu) b hT.small (eT oe ht) hA Ld Xl Cu Xp hK hZl;rw [TW (XS hL oe hT) hn,hb,ya (fun h=>h rfl)] at hv
 dsimp only at hv
 rw [wX hL hn oe hT hC hO hZ] at hv;exact hv
theorem zCJ:∀ L,Lb L -> mi L ⟨layE.p,((1:Nat):Int),4,[Er 2 3 1].length,2,1,2⟩ -> L.a+3*L.b <= 40:=fun L _ h=>by
 rw [h.eq,<- EP.eq];decide
theorem exm0:Ul layE.p ((1:Nat):Int) 4 [Er 2 3 1] 2 1 2 []=1:=eZ (YP YQ.tab EP) (fun h=>by have:=h.1;simp at this)
def iD (C:CoR):se:=(yh layE 3 1 4 [Er 2 3 1] [1,35,5,7] C).pr ⟨false,0,0,[]⟩
def SF (C:CoR):Ha:=(yh layE 3 1 4 [Er 2 3 1] [1,35,5,7] C).oF ⟨false,0,0,[]⟩
theorem DQ:du ⟨false,0,0,[]⟩ 0:=K8 true 0 (by decide)
theorem zBw (w:vw):vB prog 14 #[] w fun e w'=>e=vl (.bool true) /\ vA w.1.size w w':=by
 have MD:=zH (fun w=>zCK w)
 have HRe:=zH (fun w=>PV w)
 go_enter func14,ntmps14
 go_wp2_with fail
 refine (MD.out _).mono ?_;rintro e w1 ⟨gr,gw,rfl,hr,hw,hb⟩;have kc:=Blk.new w1 32 #[vd vn 97,vd vq 1,vd vq 4,ve (vE ⟨gr,0,vD⟩) 1 1,vd vq 2,vd vq 1,vd vq 2,ve (vE ⟨gw,0,vD⟩) 4 4,vd vn 3, .bool true,vd vn 0];have ma:=(Ca w1.1.size w1).alloc zR (.cells #[vd vn 97,vd vq 1,vd vq 4,ve (vE ⟨gr,0,vD⟩) 1 1,vd vq 2,vd vq 1,vd vq 2,ve (vE ⟨gw,0,vD⟩) 4 4,vd vn 3, .bool true,vd vn 0] 32);replace hr:=Dg Bg _ _ _ _ ma hr;replace hw:=Bb ma hw;replace hb:=pa hb ma;clear ma;go_upto_region 2 with fail
 generalize w1.alloc _=w2 at kc hr hw hb |-;generalize w1.1.size=gc at kc |-;have lc:=kc.lt;go_wp2_with fail
 refine (HRe.out _).mono ?_;rintro e w3 ⟨g,F,rfl,ho,hF,Sa⟩;have hR:Hd (fun b=>b<w2.1.size) w3 fun u=>RSl 3 Ud u [ve (vE ⟨gr,0,vD⟩) 1 1] [Er 2 3 1] /\ RWd u [ve (vE ⟨gw,0,vD⟩) 4 4] [1,35,5,7] /\ RWd u [ve vD 0 0] []:=fun u a=>⟨ZH (Dg Bg) hr Sa u a,ZH jA hw Sa u a,PK u⟩
 have hK:∀ b,b<w2.1.size -> b<w3.1.size /\ ¬F b:=fun b hb=>⟨Kc hb Sa.size,fun e=>by have:=hF b e;omega⟩
 have HP:Hid (vB prog 45 #[.pointer (vE ⟨g,0,vD⟩),vf #[vd vn 97,vd vq 1,vd vq 4,ve (vE ⟨gr,0,vD⟩) 1 1,vd vq 2,vd vq 1,vd vq 2,ve (vE ⟨gw,0,vD⟩) 4 4,vd vn 3, .bool true,vd vn 0],ve vD 0 0] w3 fun e w' =>
   ∃ (C:CoR) (S:PS) (F':Nat -> Prop),C.ok layE=true /\ e=vl (.tuple #[vf #[vd vn 97,vd vq 2,vd vq 2,vd vq 4,vd vq 8,vd vq 2,vd vq 1,vd vq 1,vd vq 1,vd vq 1,vd vq 1],vf (Od (iD C) S), .bool true]) /\ OrcAt w' g (SF C) F' /\ Moved F F' w3 w' /\ Hd (fun b=>w3.1.size <= b /\ b<w'.1.size /\ ¬F' b) w' (fun u=>gh u (iD C) S)) :=
  zH (X7 (K:=fun b=>b<w2.1.size) ho layE 3 1 3 4 2 1 2 (vE ⟨gr,0,vD⟩) (vE ⟨gw,0,vD⟩) vD 1 1 4 4 0 0 [Er 2 3 1] [1,35,5,7] [] true 0 FP rfl EP (by decide) YQ (by decide) hR hK (uf DQ.le (by omega)))
 have Hn:Hid (∀ (C:CoR) (S:PS) (u:vw) (F1 K:Nat -> Prop) (gb:Nat),C.ok layE=true -> OrcAt u g (SF C) F1 -> (∀ b,K b -> b<u.1.size /\ ¬F1 b) -> Hd K u (fun u=>RSl 3 Ud u [ve (vE ⟨gr,0,vD⟩) 1 1] [Er 2 3 1] /\ RWd u [ve (vE ⟨gb,0,vD⟩) 1 1] [35] /\ gh u (iD C) S) -> vB prog 23 #[.pointer (vE ⟨g,0,vD⟩),vf #[vd vn 97,vd vq 1,vd vq 4,ve (vE ⟨gr,0,vD⟩) 1 1],vf #[vd vq 2,vd vq 1,vd vq 2],ve (vE ⟨gb,0,vD⟩) 1 1,vf (Od (iD C) S)] u fun e w'=>∃ F',e=vl (vd vq 0) /\ OrcAt w' g (SF C) F' /\ Moved F1 F' u w') :=
  zH (fun C S u F1 K gb hC ho hK hA=>zAG ho layE 3 1 C 4 2 1 2 (vE ⟨gr,0,vD⟩) (vE ⟨gb,0,vD⟩) 1 1 1 1 [Er 2 3 1] [1,35,5,7] S FP rfl EP (by decide) YQ hC DQ (fun _ _ _ h=>h) hA hK (bV FP rfl DQ (by decide)))
 have zo:Hid (∀ (C:CoR) (S:PS) (u:vw) (F1 K:Nat -> Prop),C.ok layE=true -> OrcAt u g (SF C) F1 -> (∀ b,K b -> b<u.1.size /\ ¬F1 b) -> Hd K u (fun u=>RSl 3 Ud u [ve (vE ⟨gr,0,vD⟩) 1 1] [Er 2 3 1] /\ RWd u [ve vD 0 0] [] /\ gh u (iD C) S) -> vB prog 23 #[.pointer (vE ⟨g,0,vD⟩),vf #[vd vn 97,vd vq 1,vd vq 4,ve (vE ⟨gr,0,vD⟩) 1 1],vf #[vd vq 2,vd vq 1,vd vq 2],ve vD 0 0,vf (Od (iD C) S)] u fun e w'=>∃ F',e=vl (vd vq 1) /\ OrcAt w' g (SF C) F' /\ Moved F1 F' u w') :=
  zH (fun C S u F1 K hC ho hK hA=>by
   have hq:sG (SF C) layE.p ((1:Nat):Int) 4 [Er 2 3 1] 2 1 2 [] (iD C)=(1,SF C):=by rw [zAH (by rw [exm0];decide),exm0]
   refine Calls.mono (lV ho layE.p ((1:Nat):Int) 4 2 1 2 (vE ⟨gr,0,vD⟩) vD 1 1 0 0 [Er 2 3 1] [] (iD C) S YQ.small zCJ hA hK (bV FP rfl DQ (by decide))) fun e w' h=>?_
   obtain ⟨F',he,h1,h2⟩:=h;rw [hq] at he h1;dsimp only at he h1
   exact ⟨F',he,h1,h2⟩)
 have HR:=zH hR;have HW3:=zH (pa hb Sa);have HF:=zH hF;have nFc:¬F gc:=fun e=>by have:=hF _ e;omega
 have s23:=Sa.size;have sw:=hb.size;replace kc:=ja kc Sa;clear hr hw hR hK ho hF hb MD HRe Sa;have cc:=kc.cell;go_wp2_with fail
 refine HP.out.mono ?_;rintro e w4 ⟨C,S,F',hC,rfl,ho,hm,hp⟩;have HC:=zH hC;have nFc':=Sd hm kc.lt nFc;replace kc:=kc.moved hm nFc;have YD:=zH (eH HW3.out hm fun b hb=>by have:=HF.out b hb;omega)
 have HF4:=zH (show ∀ b,F' b -> w2.1.size <= b from fun b hb=>(hm.foot b hb).elim (HF.out b) fun h=>by omega)
 have Fq:=zH (Qd HR.out (Ek hm fun b hb e=>by have:=HF.out b e;omega))
 have s34:=hm.size;have ki:=zH hp;have HO:=zH ho;replace Hn:=zH (fun u F1 K gb=>Hn.out C S u F1 K gb hC)
 replace zo:=zH (fun u F1 K=>zo.out C S u F1 K hC)
 generalize iD C=P at *;generalize SF C=OF at *;unfold Od at *;obtain ⟨kl,kp,Ya,hs5⟩:=Eh w4 101 46 #[vd vn 97,vd vq 2,vd vq 2,vd vq 4,vd vq 8,vd vq 2,vd vq 1,vd vq 1,vd vq 1,vd vq 1,vd vq 1] #[vd vn P.root,ve S.A1 S.n1 S.c1,ve S.A2 S.n2 S.c2,ve S.A3 S.n3 S.c3,ve S.A4 S.n4 S.c4,ve S.A5 S.n5 S.c5,ve S.A6 S.n6 S.c6];have nl:¬F' w4.1.size:=fun e=>by have:=HO.out.lt _ e;omega
 have np:¬F' (w4.1.size+1):=fun e=>by have:=HO.out.lt _ e;omega
 have sF:=zH (show ∀ b,F' b -> b<w4.1.size from HO.out.lt)
 obtain ⟨KP,OH⟩:∃ KP:Nat -> Prop,KP=fun b=>w3.1.size <= b /\ b<w4.1.size /\ ¬F' b:=⟨_,rfl⟩
 rw [<- OH] at ki;have Cm:=zH (show ∀ b,KP b -> b<w4.1.size /\ ¬F' b by rw [OH];exact fun b h=>h.2)
 clear hm hp ho hC cc HP HW3 HR OH;go_upto_region 6 with fail
 generalize (w4.alloc _).alloc _=w5 at kl kp Ya hs5 |-;have s45:=Ya.size;clear hs5;replace kc:=ja kc Ya;replace HO:=zH (HO.out.below Ya);replace Fq:=zH (Qd Fq.out (Af Ya));replace ki:=zH (Qd ki.out (Af Ya));replace YD:=zH (pa YD.out Ya);have kb:=Blk.new w5 22 #[vd vn 35];have ma:=(Ca w5.1.size w5).alloc zR (.cells #[vd vn 35] 22);have cc5:=kc.cell;have cl5:=kl.cell;have cp5:=kp.cell;have nb:¬F' w5.1.size:=fun e=>by have:=sF.out _ e;omega
 have s56:=ma.size;have h35:=XI (l:=[35]) kb rfl (by decide) (by simp [maxLen])
 replace kc:=ja kc ma;replace kp:=ja kp ma;have cc:=kc.cell;have cp:=kp.cell;replace HO:=zH (HO.out.below ma);replace Fq:=zH (Qd Fq.out (Af ma));replace ki:=zH (Qd ki.out (Af ma));replace YD:=zH (pa YD.out ma);clear Ya ma kl;go_wp2_with fail
 generalize w5.alloc _=w6 at kc kp kb HO Fq ki YD h35 cc cp s56 |-;have lb:=kb.lt;generalize w5.1.size=gb at kb nb h35 s45 s56 lb |-;have Vt:=zH (Hn.out w6 F' (fun b=>b<w2.1.size \/ KP b \/ b=gb) gb HO.out
  (fun b hb=>hb.elim (fun h=>⟨by omega,fun e=>by have:=HF4.out b e;omega⟩) fun hb=>hb.elim (fun h=>⟨by have:=(Cm.out b h).1;omega,(Cm.out b h).2⟩) fun h=>by subst h;exact ⟨lb,nb⟩)
  (fun u a=>⟨(Fq.out u (Tl a fun b hb=>.inl hb)).1,XI (l:=[35]) ((a.block gb (.inr (.inr rfl)) lb).trans kb) rfl (by decide) (by simp [maxLen]),ki.out u (Tl a fun b hb=>.inr (.inl hb))⟩))
 clear cc5 cl5 cp5 cc cp h35 Hn;refine Vt.out.mono ?_;rintro e w7 ⟨F2,rfl,ho7,Xo⟩;have HO7:=zH ho7;have Mh:∀ {b},b<w6.1.size -> ¬F' b -> ¬F2 b:=fun h1 h2=>Sd Xo h1 h2
 have lc6:=kc.lt;have lp6:=kp.lt;have s67:=Xo.size;replace kc:=kc.moved Xo nFc';replace kp:=kp.moved Xo np;replace Fq:=zH (Qd Fq.out (Ek Xo fun b hb e=>by have:=HF4.out b e;omega))
 replace ki:=zH (Qd ki.out (Ek Xo fun b hb=>(Cm.out b hb).2))
 replace YD:=zH (eH YD.out Xo fun b hb=>by have:=HF4.out b hb;omega)
 have HF7:=zH (show ∀ b,F2 b -> w2.1.size <= b from fun b hb=>(Xo.foot b hb).elim (HF4.out b) fun h=>by omega)
 have HVb:=zH (zo.out w7 F2 (fun b=>b<w2.1.size \/ KP b) ho7
  (fun b hb=>hb.elim (fun h=>⟨by omega,fun e=>by have:=HF7.out b e;omega⟩) fun h=>⟨by have:=(Cm.out b h).1;omega,Mh (by have:=(Cm.out b h).1;omega) (Cm.out b h).2⟩)
  (fun u a=>⟨(Fq.out u (Tl a fun b hb=>.inl hb)).1,PK u,ki.out u (Tl a fun b hb=>.inr hb)⟩))
 have cc:=kc.cell;have cp:=kp.cell;clear Xo ho7 kc kp Vt zo Fq ki Mh;go_wp2_with fail
 refine HVb.out.mono ?_;rintro e w8 ⟨F3,rfl,ho8,hm8⟩;have HW8:=zH (eH YD.out hm8 fun b hb=>by have:=HF7.out b hb;omega)
 clear cc cp hm8 ho8 HVb;go_wp2;go_ret
 exact ⟨rfl,HW8.out⟩
theorem zE7 (p:Nat) (pub vars:Int) (A B:Option vy) (n c m d:Nat) (bl bw qs coin:Int) (real:Bool) (pd:Nat) (w:vw) (hs:pd<18446744073709551616) :
  vB prog 44 #[vf (mH p pub vars A B n c m d bl bw qs coin real pd)] w fun e w'=>∃ g F,e=vl (.pointer (vE ⟨g,0,vD⟩)) /\ OrcAt w' g (Bw real pd) F /\ (∀ b,F b -> w.1.size <= b) /\ vA w.1.size w w':=by
 have kb:=Blk.new w 32 (mH p pub vars A B n c m d bl bw qs coin real pd);have hb:=(Ca w.1.size w).alloc zR (.cells (mH p pub vars A B n c m d bl bw qs coin real pd) 32);have HI:Hid (∀ w1,vB prog (if real then 24 else 16) (if real then #[] else #[vd vn pd]) w1 fun e w'=>∃ g F,e=vl (.pointer (vE ⟨g,0,vD⟩)) /\ OrcAt w' g (Bw real pd) F /\ (∀ b,F b -> w1.1.size <= b) /\ vA w1.1.size w1 w'):=zH (fun w1=>by
  cases real
  ·exact zDz pd w1 hs
  ·exact PV w1)
 unfold mH at *;clear hs;cases real
 all_goals
  simp only [if_true,if_false,Bool.false_eq_true] at HI;go_enter func44,ntmps44
  go_wp2_with fail
  generalize w.alloc _=w1 at kb hb |-;refine (HI.out w1).mono ?_;rintro e w2 ⟨g,F,rfl,h2,hF,Ba⟩;have Bd:=hb.size;replace hb:=pa hb Ba;have HH:=zH (And.intro h2 (And.intro hF hb));clear h2 hF hb Ba kb;go_wp2;go_ret
  exact ⟨g,F,rfl,HH.out.1,fun b hb=>xb Bd (HH.out.2.1 b hb),HH.out.2.2⟩
theorem tT {F F':Nat -> Prop} {N:Nat} {w w':vw} (m:Moved F F' w w') (hF:∀ b,F b -> N <= b) (hN:N <= w.1.size):vA N w w' :=
 ⟨m.os,m.tape,m.output,m.size,fun b hb=>m.block b (by omega) fun e=>by have:=hF b e;omega⟩
theorem zFd {w u:vw} {N g nb cE:Nat} {xs ys:List Nat} (h:w.ownsRow N 5 1 (ve (vE ⟨g,0,vD⟩) (nb+4) cE) (nb+4) (U8 (xs++ys))) (hx:xs.length=4) (hp:0<nb) (hg:u.1[g]?=w.1[g]?):Rd u 1 (vE ⟨g,4,vD⟩) nb (U8 ys):=by
 have h1:=di (u:=u) h fun b hb=>by injection hb with hb;rw [<- hb];exact hg
 obtain ⟨A',c',he,h2,-,hr,-⟩:=de h1
 injection he with e1 _ e3
 subst e1 e3;have Qz:=hr.cut (k:=4) (by omega) h2
 rw [ya (by omega),dH,List.drop_append_of_le_length (by simp [TI,hx]),List.drop_of_length_le (by simp [TI,hx]),List.nil_append,Nat.add_sub_cancel] at Qz
 exact Qz
theorem zHV (W:vw) (kh:Array vx) (f0:Fits prog W 32 (vf kh).cells.toList) (A1:Option vy) (n1 c1:Nat) (f1:Fits prog W 28 (ve A1 n1 c1).cells.toList) :
  vB prog 11 #[vf kh,ve A1 n1 c1] W fun e W'=>e=vl (.bool true) /\ vA W.1.size W W':=by
 obtain ⟨p,pub,vars,A,B,n,c,m,d,rows,ws,bl,bw,qs,coin,pd,real,rfl,Rc,eM,nU⟩:=zE2 f0;obtain ⟨add,RB⟩:=zE4 f1;clear f0 f1;have da:vA W.1.size W (W.alloc (.cells #[vd vn p,vd vq pub,vd vq vars,ve A n c,vd vq bl,vd vq bw,vd vq qs,ve B m d,vd vn coin, .bool real,vd vn pd] 32)):=(Ca _ W).alloc zR _;have kc0:=Blk.new W 32 #[vd vn p,vd vq pub,vd vq vars,ve A n c,vd vq bl,vd vq bw,vd vq qs,ve B m d,vd vn coin, .bool real,vd vn pd];have HR:=zH (fun w' (hb:vA W.1.size W w')=>zGF p pub vars A B n c m d rows ws bl bw qs coin pd real w' (Dg Bg _ _ _ _ hb Rc.rows) (Bb hb Rc.ws) Rc.p)
 have HAw:=zH (fun w=>zBw w)
 have HOr:=zH (fun w'=>zE7 p pub vars A B n c m d bl bw qs coin real pd w' nU)
 have ff:=zH (K8 real pd nU);have Kp:=zH Rc;have tN:=zH RB;have HCN:=zH eM;have gm:=um (Nb Rc.ws).2.1 (Nb Rc.ws).2.2.1;have ga1:=um (Nb RB).2.1 (Nb RB).2.2.1;clear Rc eM nU RB;go_enter func11,ntmps11
 go_upto_region 1 with fail
 generalize W.alloc _=w0 at da kc0 |-;have c0:=kc0.cell;go_wp2_with fail
 refine (HR.out _ da).mono ?_;rintro e w1 ⟨⟨kK,mK⟩,hb⟩;obtain ⟨y0,y1,y2,y3,y4,y5,y6,y7,y8,y9,Xd,b,s,rfl,hL⟩:=kK;have Jb:=pa da hb;have kc:=ja kc0 hb;clear hb da kc0 c0 HR;have Gb:=Jb.alloc Jb.size (.cells #[vd vn y0,vd vq y1,vd vq y2,vd vq y3,vd vq y4,vd vq y5,vd vq y6,vd vq y7,vd vq y8,vd vq y9,vd vq Xd] 35);by_cases uj:(b=true /\ s=true) /\ n1 <= 1000
 rotate_left
 ·have hh:b=false \/ (b=true /\ s=false) \/ (b=true /\ s=true /\ (1000:Int)<n1):=by
   cases b <;> cases s <;> simp at uj |-
   omega
  clear hL mK uj kc;rcases hh with rfl | ⟨rfl,rfl⟩ | ⟨rfl,rfl,g1⟩
  all_goals
   go_wp2_with fail
   refine (HAw.out _).mono ?_;rintro e w2 ⟨rfl,Ba⟩;replace Gb:=pa Gb Ba;go_wp2_with fail
   refine (HAw.out _).mono ?_;rintro e w3 ⟨rfl,Sa⟩;go_wp2;go_ret
   exact ⟨rfl,pa Gb Sa⟩
 obtain ⟨⟨rfl,rfl⟩,Fe⟩:=uj;obtain ⟨L,Xa,oe,hn64,h40,Vx⟩:=hL rfl;have hT:=mK _ _ rfl;obtain ⟨rfl,rfl,rfl,rfl,rfl,rfl,rfl,rfl,rfl,rfl,rfl⟩:=DP Vx;obtain ⟨j,hj⟩:=Xa.n;obtain ⟨pu,rfl⟩:=Zk oe.pub;obtain rfl:L.p=p:=oe.p;have dw:=kc.alloc (.cells #[vd vn L.p,vd vq L.block,vd vq L.queries,vd vq L.k,vd vq L.n,vd vq L.secret,vd vq L.rows,vd vq L.a,vd vq L.b,vd vq L.b,vd vq L.b] 35);have HL:=zH Xa;have HF:=zH oe;have HT:=zH hT;have BG:=zH h40;have HJ:=zH hj;have g1:¬((1000:Int)<n1):=by omega
 clear Vx hL mK Xa oe hn64 h40 hT hj Jb kc Fe;go_wp2_with fail
 generalize w1.alloc _=w2 at Gb dw |-;refine (HAw.out _).mono ?_;rintro e w3 ⟨rfl,Sa⟩;replace dw:=ja dw Sa;replace Gb:=pa Gb Sa;clear Sa HAw;have cc:=dw.cell;have lc:=dw.lt;have HO:=zH (HOr.out w3);go_wp2_with fail
 refine HO.out.mono ?_;rintro e wB ⟨ga,F1,rfl,h1,hF1,xa⟩;have Wy:=zH h1;have HFa:=zH (show ∀ b,F1 b -> W.1.size<b from fun b hb=>by have h:=hF1 b hb;have:=dw.lt;omega)
 replace dw:=ja dw xa;replace Gb:=pa Gb xa;clear cc lc HO HOr h1 hF1 xa;obtain ⟨O,hO⟩:=zEX (Bw real pd);rw [<- hO] at Wy ff;have nF0:¬F1 W.1.size:=fun e=>by have:=HFa.out _ e;omega
 have hp:=X7 (K:=fun b=>b<W.1.size) Wy.out L j pu coin vars bl bw qs A B A1 n c m d n1 c1 rows ws add real pd HL.out HJ.out HF.out BG.out HT.out HCN.out (fun x a=>⟨ZH (Dg Bg) Kp.out.rows Gb x a,ZH jA Kp.out.ws Gb x a,ZH jA tN.out Gb x a⟩) (fun b hb=>⟨Kc hb Gb.size,fun e=>by have:=HFa.out b e;omega⟩) (uf ff.out.le (by omega))
 unfold mH jb at hp;have HP:=zH hp;have HOR:=zH hO;have cc:=dw.cell;clear hp hO;go_wp2_with fail
 refine HP.out.mono ?_;rintro e wV ⟨C,S,F2,hC,rfl,h2,m2,Wd⟩;have HC:=zH hC;obtain ⟨P,hP⟩:=zEX ((yh L j pu vars rows ws C).pr O);obtain ⟨OF,RH⟩:=zEX ((yh L j pu vars rows ws C).oF O);rw [<- hP] at Wd |-;rw [<- RH] at h2;have GI:=zIc (vars:=vars) (rows:=rows) (ws:=ws) (pu:=pu) HL.out HJ.out hC ff.out;rw [<- hP] at GI;have yR:=zH GI;have He:=zH (eH Gb m2 fun b hb=>Nat.le_of_lt (HFa.out b hb))
 have n20:=Sd m2 dw.lt nF0;have kc:=dw.moved m2 nF0;have Bq:=zH (show ∀ b,F2 b -> W.1.size <= b from fun b hb=>(m2.foot b hb).elim (fun h=>Nat.le_of_lt (HFa.out b h)) fun h=>by have:=Gb.size;omega)
 obtain ⟨KP,OH⟩:∃ KP:Nat -> Prop,KP=fun b=>wB.1.size <= b /\ b<wV.1.size /\ ¬F2 b:=⟨_,rfl⟩
 rw [<- OH] at Wd;have Cm:=zH (show ∀ b,KP b -> b<wV.1.size /\ ¬F2 b by rw [OH];exact fun b h=>h.2)
 have ki:=zH Wd;have Jl:=zH h2;have Qu:=zH hP;have HOE:=zH RH;clear hC Wd h2 m2 OH hP RH GI cc HP dw Gb nF0;unfold Od;obtain ⟨kl,kp,Ab,hs4⟩:=Eh wV 101 46 #[vd vn L.p,vd vq L.block,vd vq L.queries,vd vq L.k,vd vq L.n,vd vq L.secret,vd vq L.rows,vd vq L.a,vd vq L.b,vd vq L.b,vd vq L.b] #[vd vn P.root,ve S.A1 S.n1 S.c1,ve S.A2 S.n2 S.c2,ve S.A3 S.n3 S.c3,ve S.A4 S.n4 S.c4,ve S.A5 S.n5 S.c5,ve S.A6 S.n6 S.c6];have nFl:¬F2 wV.1.size:=fun e=>by have:=Jl.out.lt _ e;omega
 have QF:¬F2 (wV.1.size+1):=fun e=>by have:=Jl.out.lt _ e;omega
 replace kc:=ja kc Ab;have s4:=Ab.size;go_upto_region 10 with fail
 generalize (wV.alloc _).alloc _=w4 at kl kp kc Ab hs4 s4 |-;replace Jl:=zH (Jl.out.below Ab);replace He:=zH (pa He.out Ab);replace ki:=zH (Qd ki.out (Af Ab));replace Cm:=zH (show ∀ b,KP b -> b<w4.1.size /\ ¬F2 b from fun b hb=>⟨Kc (Cm.out b hb).1 s4,(Cm.out b hb).2⟩)
 generalize Jv:wV.1.size=gl at kl kp nFl QF hs4 |-;obtain ⟨gp,Kv⟩:=zEX (gl+1);rw [<- Kv] at kp QF |-;clear Ab Jv Kv hs4 s4;obtain ⟨hwv,-,nm⟩:=IJ HT.out.asg;have hmw:=(Nb Kp.out.ws).1;have Xs:=(Nb Kp.out.ws).2.1;have hpv0:(pu:Int)<vars:=HF.out.vars;have fq:pu<m:=by omega
 have hv6:pu<65536:=by have:=rJ HT.out.tab;omega
 obtain ⟨e0,he0⟩:=zEX (1+pu);have e1:(1:Int)+pu=(e0:Int):=by omega
 have e2:=ye e0;have e3:(1:Int)<=e0:=by omega
 have e4:(e0:Int)<=d:=by omega
 have e5:e0-1=pu:=by omega
 have HPB:=zH (fun u (h:RWd u [ve B m d] ws)=>iN (k:=pu) (NK h (t:=1) (by omega)) (by omega))
 obtain ⟨BP,MH⟩:∃ BP,(if d=1 then B else Option.map (fun y:vy=>y.add 1) B)=BP:=⟨_,rfl⟩
 rw [MH] at HPB;have hBP2:(if d=1 then B else Option.map (fun x=>(⟨x.block,x.off+1,vD⟩:vy)) B)=BP:=MH
 have HBP:=zH hBP2;clear hpv0 hmw hwv nm he0 MH hBP2 Xs;have cc:=kc.cell;go_upto_region 11 with fail
 rw [HBP.out];clear cc;have hold:=fun (u:vw) (hb:vA W.1.size W u)=>show Hd (fun b=>b<W.1.size) u (fun u=>RSl 3 Ud u [ve A n c] rows /\ RWd u [ve BP pu (d-1)] ((ws.drop 1).take pu)) from fun x a=>⟨ZH (Dg Bg) Kp.out.rows hb x a,HPB.out x (ZH jA Kp.out.ws hb x a)⟩
 have dU:pc OF 100000:=by rw [HOE.out];exact bV HL.out HJ.out ff.out (by decide)
 have PO:=zB9 L j P (by have:=Pb HL.out.p;omega) (u6 (Yg ki.out)) yR.out
 have sM:=zAe L j HL.out (JK HJ.out HL.out.n2) BG.out;obtain ⟨bs,uj⟩:=zEX (Gs (Dj P));obtain ⟨nb,Qv⟩:=zEX (8*(Dj P).length);have hnbl:nb=bs.length:=by rw [Qv,uj,oS]
 have hnb0:0<nb:=by rw [Qv];unfold Dj;simp only [Ni,xg,List.length_nil];omega
 rw [<- uj] at PO;have UZ:∀ x∈bs,x<256:=by rw [uj];exact zBF _
 have hV:∀ (u:vw) (F:Nat -> Prop),OrcAt u ga OF F -> vA W.1.size W u -> Hd KP u (fun u=>gh u P S) -> (∀ b,b<W.1.size -> ¬F b) -> (∀ b,KP b -> b<u.1.size /\ ¬F b) -> vB prog 23 #[.pointer (vE ⟨ga,0,vD⟩),vf #[vd vn L.p,vd vq pu,vd vq vars,ve A n c],vf #[vd vq bl,vd vq bw,vd vq qs],ve BP pu (d-1),vf #[vd vn P.root,ve S.A1 S.n1 S.c1,ve S.A2 S.n2 S.c2,ve S.A3 S.n3 S.c3,ve S.A4 S.n4 S.c4,ve S.A5 S.n5 S.c5,ve S.A6 S.n6 S.c6]] u fun e w'=>∃ F',e=vl (vd vq 0) /\ OrcAt w' ga OF F' /\ Moved F F' u w':=fun u F ho hb hp h0 hk=>by
  have:=zAG (K:=fun b=>b<W.1.size \/ KP b) (Z:=OF) ho L j pu C vars bl bw qs A BP n c pu (d-1) rows ws S HL.out HJ.out HF.out BG.out HT.out HC.out ff.out (by rw [<- HOE.out];exact fun _ _ _ h=>h)
   (fun x a=>⟨(hold u hb x (Tl a fun b hb=>.inl hb)).1,(hold u hb x (Tl a fun b hb=>.inl hb)).2,by rw [<- Qu.out];exact hp x (Tl a fun b hb=>.inr hb)⟩)
   (fun b yi=>yi.elim (fun h=>⟨Kc h hb.size,h0 b h⟩) (hk b)) dU
  rw [<- Qu.out] at this;exact this
 have OE:real=true -> ∀ (u:vw) (g:Nat) (F:Nat -> Prop),OrcAt u g ⟨false,0,0,[]⟩ F -> vA W.1.size W u -> Hd KP u (fun u=>gh u P S) -> (∀ b,b<W.1.size -> ¬F b) -> (∀ b,KP b -> b<u.1.size /\ ¬F b) -> vB prog 23 #[.pointer (vE ⟨g,0,vD⟩),vf #[vd vn L.p,vd vq pu,vd vq vars,ve A n c],vf #[vd vq bl,vd vq bw,vd vq qs],ve BP pu (d-1),vf #[vd vn P.root,ve S.A1 S.n1 S.c1,ve S.A2 S.n2 S.c2,ve S.A3 S.n3 S.c3,ve S.A4 S.n4 S.c4,ve S.A5 S.n5 S.c5,ve S.A6 S.n6 S.c6]] u fun e w'=>∃ F' Z',e=vl (vd vq 0) /\ OrcAt w' g Z' F' /\ Moved F F' u w':=fun hr u g F ho hb hp h0 hk=>by
  have hO:O=⟨false,0,0,[]⟩:=by rw [HOR.out,hr];rfl
  have hRF:Vc ⟨false,0,0,[]⟩:=⟨fun _ q hq=>by simp at hq,rfl⟩
  have:=zIh (K:=fun b=>b<W.1.size \/ KP b) ho L j pu C vars bl bw qs A BP n c pu (d-1) rows ws S HL.out HJ.out HF.out BG.out HT.out HC.out ff.out (by rw [hO];exact hRF) hRF
   (fun x a=>⟨(hold u hb x (Tl a fun b hb=>.inl hb)).1,(hold u hb x (Tl a fun b hb=>.inl hb)).2,by rw [<- Qu.out];exact hp x (Tl a fun b hb=>.inr hb)⟩)
   (fun b yi=>yi.elim (fun h=>⟨Kc h hb.size,h0 b h⟩) (hk b)) (by simp [pc])
  rw [<- Qu.out] at this;exact this
 have hVB:∀ (u:vw) (F:Nat -> Prop) (gE cE:Nat),OrcAt u ga OF F -> vA W.1.size W u -> Hd (fun b=>b=gE) u (fun u=>Rd u 1 (vE ⟨gE,4,vD⟩) nb (U8 bs)) -> (∀ b,b<W.1.size -> ¬F b) -> gE<u.1.size /\ ¬F gE -> nb <= cE -> cE <= maxLen -> vB prog 36 #[.pointer (vE ⟨ga,0,vD⟩),vf #[vd vn L.p,vd vq pu,vd vq vars,ve A n c],vf #[vd vq bl,vd vq bw,vd vq qs],ve BP pu (d-1),ve (vE ⟨gE,4,vD⟩) nb cE] u fun e w'=>∃ F',e=vl (vd vq 0) /\ OrcAt w' ga OF F' /\ Moved F F' u w':=fun u F gE cE ho hb hr h0 hg h1 h2 =>
  zIg (K:=fun b=>b<W.1.size \/ b=gE) (Z:=OF) ho L j pu C vars bl bw qs A BP (vE ⟨gE,4,vD⟩) n c pu (d-1) nb cE rows ws bs HL.out HJ.out HF.out BG.out HT.out HC.out ff.out (by rw [<- HOE.out];exact fun _ _ _ h=>h) (by rw [<- Qu.out];exact PO.1)
   (fun x a=>⟨(hold u hb x (Tl a fun b hb=>.inl hb)).1,(hold u hb x (Tl a fun b hb=>.inl hb)).2,hr x (Tl a fun b hb=>.inr hb)⟩) h1 h2 (by rw [hnbl,PO.2];omega) UZ
   (fun b yi=>yi.elim (fun h=>⟨Kc h hb.size,h0 b h⟩) fun h=>h ▸ hg) dU
 have hE:=fun (u:vw) (h:gh u P S)=>zFv L j P S u HL.out HJ.out (JK HJ.out HL.out.n2) BG.out h yR.out
 unfold EncF at hE;rw [<- Qv,<- uj] at hE;unfold jb Od at hE;have HV:=zH hV;have HVR:=zH OE;have WD:=zH hVB;have HE:=zH hE;have HN0:=zH hnb0;clear hold dU PO sM uj Qv hnbl hnb0 UZ hV OE hVB hE ff HCN tN yR HC Qu HOE HOR HPB HBP HT HF HJ BG Kp HL gm ga1 hv6 fq e1 e2 e3 e4;have cl:=kl.cell;have cp:=kp.cell;go_wp2_with fail
 refine (HE.out _ (Yg ki.out)).mono ?_;rintro e w5 ⟨gE,cE,rfl,ho5,hE1,hE2,Ya⟩;have lgE:=(ho5.lt gE rfl).2;have lgE1:=(ho5.lt gE rfl).1;have nFE:¬F2 gE:=fun e=>by have:=Jl.out.lt _ e;omega
 have HBY:=zH (show Hd (fun b=>b=gE) w5 (fun u=>Rd u 1 (vE ⟨gE,4,vD⟩) nb (U8 bs)) from fun u a=>zFd ho5 (qK _ _) HN0.out (a.block gE rfl lgE))
 have zk:=zH (show nb <= cE-4 /\ cE-4 <= maxLen by omega)
 have s5:=Ya.size;replace kc:=ja kc Ya;replace kp:=ja kp Ya;replace Jl:=zH (Jl.out.below Ya);replace He:=zH (pa He.out Ya);replace ki:=zH (Qd ki.out (Af Ya));replace Cm:=zH (show ∀ b,KP b -> b<w5.1.size /\ ¬F2 b from fun b hb=>⟨Kc (Cm.out b hb).1 s5,(Cm.out b hb).2⟩)
 clear ho5 hE1 hE2 Ya cl cp kl nFl HE HN0 lgE1 s5;have cc:=kc.cell;have cp:=kp.cell;have l0:=kc.lt;have l1:=kp.lt;obtain ⟨NQ,Xg⟩:=zEX (w5.1.size);rw [<- Xg] at l0 l1;have gg:=zH Xg;clear Xg;have HRe:=zH (fun w=>PV w)
 go_upto_region 12 with fail
 cases real
 case' false =>
  clear HVR HRe;refine zd (Nu NQ) [3,12] [0,1,2,4,5,6,7,8,9,10,11,3,12,13,14] (by kernel_rfl) (by kernel_rfl) ?_
  refine Se (te NQ) ?_;intro Wc Ja ia;have Ka:=Tf Ja;clear Ja;refine Mt ?_;refine Jc ?_;clear ia;generalize Wc=wc at Ka |-
 case' true =>
  refine zd (Nu NQ) [3,12] [0,1,2,4,5,6,7,8,9,10,11,3,12,13,14] (by kernel_rfl) (by kernel_rfl) ?_
  refine Se (te NQ) ?_;intro Wc Ja ia;have Ka:=Tf Ja;clear Ja;refine Mt ?_;refine Bc (te NQ) rfl rfl rfl (fun _=>by go_simp <;> rfl) ((HRe.out _).mono ?_)
  rintro e wC ⟨gN,FN,rfl,hoN,hFN,xa⟩;refine ⟨_,rfl,zv xa (by rw [gg.out];exact Ka.size),?_⟩
  replace ia:=(te NQ).trans _ _ _ ia (zv xa (by rw [gg.out];exact Ka.size))
  refine zPU ?_;have JO:∀ b,FN b -> NQ <= b:=fun b hb=>xb (by rw [gg.out];exact Ka.size) (hFN b hb)
  replace Ka:=pa Ka xa;have XD:=zH (HVR.out rfl wC gN FN hoN (pa He.out Ka) (Qd ki.out (Af Ka)) (fun b hb e=>by have:=JO b e;omega) (fun b hb=>⟨Kc (Cm.out b hb).1 Ka.size,fun e=>by have:=JO b e;have:=(Cm.out b hb).1;have:=gg.out;omega⟩))
  have Yw:=zH JO;clear hoN hFN JO xa HVR HRe;refine Mt ?_;refine Bc (te NQ) rfl rfl rfl (fun _=>by go_simp <;> rfl) ((XD.out).mono ?_)
  rintro e wD ⟨FZ,Z,rfl,hoZ,hmZ⟩;refine ⟨_,rfl,tT hmZ Yw.out (by rw [gg.out];exact Ka.size),?_⟩
  replace ia:=(te NQ).trans _ _ _ ia (tT hmZ Yw.out (by rw [gg.out];exact Ka.size))
  refine zPU ?_;replace Ka:=Ka.trans (tT hmZ (N:=w5.1.size) (fun b hb=>by rw [<- gg.out];exact Yw.out b hb) Ka.size)
  clear hoZ hmZ XD;refine Mt ?_;refine Jc ?_;clear ia Yw;generalize wD=wc at Ka |-
 all_goals
  have Wj:=Ka;clear cc cp l0 l1 gg Ka;replace kc:=ja kc Wj;replace kp:=ja kp Wj;replace Jl:=zH (Jl.out.below Wj);replace He:=zH (pa He.out Wj);replace ki:=zH (Qd ki.out (Af Wj));replace HBY:=zH (Qd HBY.out (Af Wj));have s5:=Wj.size;replace Cm:=zH (show ∀ b,KP b -> b<wc.1.size /\ ¬F2 b from fun b hb=>⟨Kc (Cm.out b hb).1 s5,(Cm.out b hb).2⟩)
  have lgE2:=Kc lgE s5;have nW:∀ b,b<W.1.size -> ¬F2 b:=fun b hb e=>by have:=Bq.out b e;omega
  have XD:=zH (HV.out wc F2 Jl.out He.out ki.out nW Cm.out);clear Wj s5 HV lgE ki;have cc:=kc.cell;have cp:=kp.cell;go_wp2_with fail
  refine XD.out.mono ?_;rintro e w7 ⟨F3,rfl,ho7,Xo⟩;have nE3:=Sd Xo lgE2 nFE;have HF3:=zH (show ∀ b,F3 b -> W.1.size <= b from fun b hb=>(Xo.foot b hb).elim (Bq.out b) fun h=>by have:=He.out.size;omega)
  have lgE3:=Kc lgE2 Xo.size;replace kc:=kc.moved Xo n20;replace He:=zH (eH He.out Xo Bq.out);replace HBY:=zH (Qd HBY.out (Ek Xo fun b hb=>by rw [hb];exact nFE))
  have HVz2:=zH (WD.out w7 F3 gE (cE-4) ho7 He.out HBY.out (fun b hb e=>by have:=HF3.out b e;omega) ⟨lgE3,nE3⟩ zk.out.1 zk.out.2)
  clear Xo ho7 cc cp XD WD HBY kp zk;have cc:=kc.cell;go_wp2_with fail
  refine HVz2.out.mono ?_;rintro e w8 ⟨F4,rfl,ho8,hm8⟩;have HB9:=zH (eH He.out hm8 HF3.out);clear ho8 hm8 cc HVz2;go_wp2;go_ret
  exact ⟨rfl,HB9.out⟩
end Go.Proofs.YteoghgbnielkpaaGreat
