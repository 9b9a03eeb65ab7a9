/- A part of the proof. No condition. -/
import Derived.Test.YtjipleoamlmkfaaGreatProg
import Derived.Test.YtjipleoamlmkfaaGreatPF21
import Derived.Test.YtjipleoamlmkfaaGreatPF20
import Derived.Test.YtjipleoamlmkfaaGreatPF17
import Derived.Deep.AppendLies
import Derived.Laws.OwnMore

set_option maxRecDepth 100000
set_option maxHeartbeats 8000000
set_option linter.unusedVariables false
set_option linter.unusedSimpArgs false
namespace Go.Proofs.YtjipleoamlmkfaaGreat
open Go.RowKit
def Rh (s c k:Nat):List (List Nat):=(List.range k).map fun i=>[s,c+i]
theorem zI (s c k:Nat):(Rh s c k).length=k:=by simp [Rh]
theorem RL (O:La) (s c i:Nat):Nb O 19 (Rh s c (i+1))=jc (Nb O 19 (Rh s c i)) 19 [s,c+i]:=by
 unfold Nb Rh;rw [List.range_succ,List.map_append,List.foldl_append]
 rfl
def Mj (O:La) (s c i:Nat):Nat:=Kc (Nb O 19 (Rh s c i)) 19 [s,c+i]
def vu (l:List Nat) (i j:Nat):List Nat:=(l.set i (l.getD j 0)).set j (l.getD i 0)
def Og (f:Nat -> Nat) (n:Nat):Nat -> List Nat
 | 0=>List.range n
 | i+1=>vu (Og f n i) i (i+f i%(n-i))
theorem uO (l:List Nat) (i j:Nat):(vu l i j).length=l.length:=by simp [vu]
theorem tz (f:Nat -> Nat) (n:Nat):∀ i,(Og f n i).length=n
 | 0=>by simp [Og]
 | i+1=>by rw [Og,uO,tz f n i]
theorem VS {l:List Nat} {i j x:Nat} (hi:i<l.length) (hj:j<l.length) (h:x∈vu l i j):x∈l:=by
 unfold vu at h;have hg:∀ k,k<l.length -> l.getD k 0∈l:=fun k hk=>by rw [List.getD_eq_getElem?_getD,List.getElem?_eq_getElem hk];exact List.getElem_mem hk
 rcases List.mem_or_eq_of_mem_set h with h | rfl
 ·rcases List.mem_or_eq_of_mem_set h with h | rfl
  ·exact h
  ·exact hg j hj
 ·exact hg i hi
theorem LJ (f:Nat -> Nat) (n:Nat):∀ i,i <= n -> ∀ x∈Og f n i,x<n
 | 0,_,x,hx=>by simpa [Og] using hx
 | i+1,h,x,hx=>by
  rw [Og] at hx;refine LJ f n i (by omega) x (VS (by rw [tz];omega) (by rw [tz];have:=Nat.mod_lt (f i) (show 0<n-i by omega);omega) hx)
def Sr (O:La) (s c n count:Nat):List Nat:=((Og (Mj O s c) n count).take count).mergeSort fun x y=>decide (x <= y)
theorem DI (O:La) (s c n count:Nat) (h:count <= n):(Sr O s c n count).length=count:=by
 unfold Sr;rw [List.length_mergeSort,List.length_take,tz,Nat.min_eq_left h]
theorem LQ (O:La) (s c n count:Nat) (h:count <= n):∀ x∈Sr O s c n count,x<n:=fun x hx=>by
 unfold Sr at hx;rw [List.mem_mergeSort] at hx;exact LJ _ n count h x (List.mem_of_mem_take hx)
def Dk (p s:Nat) (F G:Nat -> Nat) (t:Nat):Nat -> Nat:=uf (fun k=>(F k+s*G k%p)%p) F t
theorem aL (p s g base gb na ca nb cb mb t:Nat) (F G:Nat -> Nat) (w:World) (hp:Db p=true) (ka:w.ownsRow base 22 1 (.slice (some ⟨g,0,none⟩) na ca) na (Ca ((List.range na).map F))) (kb:Blk w gb 22 (Fa mb G)) (hg:g≠gb) (hb:nb <= mb) (ht:t=min na nb) (hm:na <= 65536) :
  Calls Tryz.prog 114 #[fv p, .slice (some ⟨g,0,none⟩) na ca, .slice (some ⟨gb,0,none⟩) nb cb, .int .u64 s] w fun e w'=>e= .returned (.tuple #[]) /\ w'.ownsRow base 22 1 (.slice (some ⟨g,0,none⟩) na ca) na (Ca ((List.range na).map (Dk p s F G t))) /\ w.grownBy w' (some g):=by
 have HA:=zH (fun a b w=>Wi p a b w hp)
 have HM:=zH (fun a b w=>Lo p a b w hp)
 have hmin:min (na:Int) (nb:Int)=(t:Int):=by omega
 have gl:(na:Int) <= 65536:=by omega
 have lg:g<w.heap.size:=(ka.lt g rfl).2;have lgb:=kb.lt;have ht1:t <= na:=by omega
 have ht2:t <= nb:=by omega
 have gt:(t:Int) <= 65536:=by omega
 clear ht hp;unfold fv Dk at *;have aa:Below w.heap.size w (w.alloc (.cells #[.int .u64 p] 175)):=(Below.refl _ _).alloc zR _;have kf:=Blk.new w 175 #[.int .u64 p];have g1:w.heap.size≠g:=by omega
 replace ka:=db ka aa zR;replace kb:=ea kb aa;have Da:=Uh (Lc w (some g)) aa zR;clear aa;obtain ⟨S,hS⟩:∃ S:Nat -> Nat,S=fun k=>(F k+s*G k%p)%p:=⟨_,rfl⟩
 have HSE:=zH (show ∀ k,(F k+s*G k%p)%p=S k from fun k=>by rw [hS])
 rw [<- hS];clear hS;have HZ:=zH (mT na S F);go_enter Tryz.func114,Tryz.ntmps114
 go_upto_region 1 with fail
 generalize w.alloc _=w0 at kf ka kb Da |-;go_wp2_with fail
 go_loopw [14] (fun y wr=>∃ i:Nat,i <= t /\ y= .int .i64 i /\ Blk wr w.heap.size 175 #[.int .u64 p] /\ wr.ownsRow base 22 1 (.slice (some ⟨g,0,none⟩) na ca) na (Ca ((List.range na).map (uf S F i))) /\ Blk wr gb 22 (Fa mb G) /\ w.grownBy wr (some g)) (fun y _=>t-(intOf y).toNat)
 case atStart=>exact ⟨0,Nat.zero_le _,rfl,kf,by rw [HZ.out];exact ka,kb,Da⟩
 case round =>
  clear kf ka kb Da;obtain ⟨i,hi,rfl,kf,ka,kb,Da⟩:=hrel;by_cases oa:i<t
  ·have q1:(0:Int) <= (i:Int):=by omega
   have q2:(i:Int)<(t:Int):=by omega
   have q3:(i:Int)<(na:Int):=by omega
   have q4:(i:Int)<(nb:Int):=by omega
   have Wq:i<na:=by omega
   have himb:i<mb:=by omega
   have jV:=zH (HSE.out i);obtain ⟨x,hx⟩:=zEX (F i);obtain ⟨y,hy⟩:=zEX (G i);obtain ⟨u,hu⟩:=zEX (s*y%p);obtain ⟨z,hz⟩:=zEX (S i);have Xf:=zH (lT (n:=na) (G:=F) hz);rw [<- hx,<- hy,<- hu,<- hz] at jV;have HX:=zH (show (Ca ((List.range na).map (uf S F i)))[i]?=some (.int .u64 x) by rw [jT _ _ Wq,hx])
   have ke:Hid (∀ w:World,Calls Tryz.prog 113 #[.agg #[.int .u64 p], .int .u64 s, .int .u64 y] w fun e w'=>e= .returned (.int .u64 u) /\ Below w.heap.size w w'):=zH (fun w=>by rw [hu];exact HM.out s y w)
   have HC:Hid (∀ w:World,Calls Tryz.prog 169 #[.agg #[.int .u64 p], .int .u64 x, .int .u64 u] w fun e w'=>e= .returned (.int .u64 z) /\ Below w.heap.size w w'):=zH (fun w=>by rw [<- jV.out];exact HA.out x u w)
   have ca1:=ka.cellAt i (by omega)
   rw [HX.out] at ca1;have cb1:=kb.cell i;rw [Fe _ himb,<- hy] at cb1;clear hx hy hz hu;have cf:=kf.cell;have lf:=kf.lt;have la:g<wr.heap.size:=(ka.lt g rfl).2;have lb:=kb.lt;go_upto_region 4 with fail
   refine xd (Bb) (pa) [16] [16] [0,1,2,3,4,5,6,7,8,9,10,11,12,13,14,15,16] (by kernel_rfl) (by kernel_rfl) ?_
   refine yd (pa) ?_;intro Wc da;refine Qb ?_;refine Jb (pa) rfl rfl rfl rfl (fun _ _ _ h=>h) (fun _=>by go_simp <;> rfl) (fun w' hR=>ke.out _) ?_
   simp only [Act.put,zLa,zLb,zLc];refine Qb ?_;refine Jb (pa) rfl rfl rfl rfl (fun _ _ _ h=>h) (fun _=>by go_simp <;> rfl) (fun w' hR=>HC.out _) ?_
   simp only [Act.put,zLa,zLb,zLc];refine Qb ?_;refine Hf rfl rfl rfl rfl ?_;intro wh xb;replace da:=(pa).trans _ _ _ da xb;have rb:=ja (Below.refl wr.heap.size wr).drew da;have Uq:=Uh Da rb Da.size;replace kf:=ea kf rb;replace ka:=db ka rb zR;replace kb:=ea kb rb;clear rb da xb cf lf la lb ca1 cb1 Da;have c2:=ka.cellAt i (by omega)
   rw [HX.out] at c2;have f2:=ka.frozenAt i;go_simp;refine ⟨fun h=>Bool.noConfusion h,?_⟩
   obtain ⟨ka,Ge⟩:=ka.stored i (.int .u64 z);replace kf:=kf.grown Ge (fun e=>g1 (Option.some.inj e))
   replace kb:=kb.grown Ge (fun e=>hg (Option.some.inj e).symm)
   rw [Xf.out] at ka;have Da:=Iq Uq Ge (fun _ e=>.inl e)
   clear Ge f2 c2 Uq;generalize wh.setCell _ _=we at kf ka kb Da |-;refine Uf rfl ?_;go_wp2_with fail
   go_roundw
   case rel=>exact ⟨i+1,by omega,by go_num,kf,ka,kb,Da⟩
   case measure=>simp [intOf];omega
  ·obtain rfl:i=t:=by omega
   have q2:¬((i:Int)<(i:Int)):=by omega
   go_wp2;exact bodyPost_end (v:=.tuple #[]) (by simp [results,Tryz.results114,go_sem]) rfl ⟨rfl,ka,Da⟩
end Go.Proofs.YtjipleoamlmkfaaGreat
namespace Go.Proofs.YtjipleoamlmkfaaGreat
def Sb (f:Nat -> Int):Nat -> Int
 | 0=>0
 | n+1=>Sb f n+f n
theorem MW (a:Nat -> Int) (x:Int):∀ n,Ub a x n=Sb (fun i=>a i*x^i) n
 | 0=>rfl
 | n+1=>by rw [Ub,Sb,MW a x n]
theorem qD {p:Nat} {f g:Nat -> Int}:∀ n,(∀ i,i<n -> Cg p (f i) (g i)) -> Cg p (Sb f n) (Sb g n)
 | 0,_=>Cg.rfl'
 | n+1,h=>(qD n fun i hi=>h i (by omega)).add (h n (by omega))
theorem bZ (c:Int) (f:Nat -> Int):∀ n,c*Sb f n=Sb (fun i=>c*f i) n
 | 0=>by simp [Sb]
 | n+1=>by rw [Sb,Sb,Int.mul_add,bZ c f n]
theorem zZ (f g:Nat -> Int):∀ n,Sb (fun i=>f i+g i) n=Sb f n+Sb g n
 | 0=>rfl
 | n+1=>by rw [Sb,Sb,Sb,zZ f g n];omega
theorem sX:∀ n,Sb (fun _=>0) n=0
 | 0=>rfl
 | n+1=>by rw [Sb,sX n];rfl
theorem cY (f:Nat -> Nat -> Int) (m:Nat):∀ n,Sb (fun i=>Sb (fun k=>f i k) m) n=Sb (fun k=>Sb (fun i=>f i k) n) m
 | 0=>by simp only [Sb];rw [sX]
 | n+1=>by
  rw [Sb,cY f m n,<- zZ]
  rfl
theorem zAV {p n q:Nat} {f:Nat -> Int} {y:Int} (hq:q<n) (h0:∀ k,k<n -> k≠q -> Cg p (f k) 0) (h1:Cg p (f q) y):Cg p (Sb f n) y:=by
 induction n with
 | zero=>omega
 | succ n ih =>
  rw [Sb];by_cases e:q=n
  ·subst e
   have hz:Cg p (Sb f q) (Sb (fun _=>0) q):=qD q fun i hi=>h0 i (by omega) (by omega)
   rw [sX] at hz;exact (hz.add h1).trans (Cg.of_eq (by omega))
  ·exact ((ih (by omega) fun k hk Ka=>h0 k (by omega) Ka).add (h0 n (by omega) (by omega))).trans (Cg.of_eq (by omega))
theorem F6:∀ n:Nat,Ub (fun _=>1) 1 n=(n:Int)
 | 0=>rfl
 | n+1=>by rw [Ub,F6 n,Int.one_pow];omega
theorem F9 {p j:Nat} {w v:Int} (hw:Cg p (w^(2^(j-1))) (-1)) (hv:Cg p (w*v) 1):Cg p (v^(2^(j-1))) (-1):=by
 have h1:=hv.pow (2^(j-1));rw [Int.mul_pow,Int.one_pow] at h1;have h2:=((hw.mul (Cg.rfl' (x:=v^(2^(j-1))))).symm.trans h1).neg;exact Cg.trans (Cg.of_eq (by omega)) h2
theorem B4 {p:Nat} {w v:Int} (hv:Cg p (w*v) 1) (q:Nat):Cg p (v^q*w^q) 1:=by
 rw [<- Int.mul_pow,Int.mul_comm v w];exact (hv.pow q).trans (Cg.of_eq Int.one_pow)
theorem zCb {p n j:Nat} (m:Nat -> Int) (w v s:Int) (hn:n=2^j) (hw:j=0 \/ Cg p (w^(2^(j-1))) (-1)) (hv:Cg p (w*v) 1) (hs:Cg p ((n:Int)*s) 1) (q:Nat) (hq:q<n) :
  Cg p (Ub (fun i=>s*Ub m (v^i) n) (w^q) n) (m q):=by
 have hx:∀ k,k<n -> k≠q -> Cg p (Ub (fun _=>1) (v^k*w^q) n) 0:=by
  intro k hk Ka;have hj:j≠0:=by rintro rfl;omega
  have yn:Cg p (w^(2^(j-1))) (-1):=hw.resolve_left hj;rcases Nat.lt_or_gt_of_ne Ka with h | h
  ·have e:Cg p (v^k*w^q) (w^(q-k)):=by
    obtain ⟨d,rfl⟩:∃ d,q=k+d:=⟨q-k,by omega⟩
    rw [Nat.add_sub_cancel_left,Int.pow_add,<- Int.mul_assoc];exact ((B4 hv k).mul Cg.rfl').trans (Cg.of_eq (Int.one_mul _))
   rw [hn];exact (YL (fun _=>Cg.rfl') e _).trans (Q7 yn (by omega) (by omega))
  ·have e:Cg p (v^k*w^q) (v^(k-q)):=by
    obtain ⟨d,rfl⟩:∃ d,k=q+d:=⟨k-q,by omega⟩
    rw [Nat.add_sub_cancel_left,Int.pow_add,Int.mul_assoc,Int.mul_comm (v^d),<- Int.mul_assoc];exact ((B4 hv q).mul Cg.rfl').trans (Cg.of_eq (Int.one_mul _))
   rw [hn];exact (YL (fun _=>Cg.rfl') e _).trans (Q7 (F9 yn hv) (by omega) (by omega))
 have Yj:Cg p (Ub (fun _=>1) (v^q*w^q) n) (n:Int):=(YL (fun _=>Cg.rfl') (B4 hv q) n).trans (Cg.of_eq (F6 n))
 have e1:Ub (fun i=>s*Ub m (v^i) n) (w^q) n=Sb (fun k=>s*m k*Ub (fun _=>1) (v^k*w^q) n) n:=by
  rw [MW];have e2:(fun i=>s*Ub m (v^i) n*(w^q)^i)=fun i=>Sb (fun k=>s*m k*(v^k*w^q)^i) n:=by
   funext i
   rw [MW,Int.mul_comm (s*_),<- Int.mul_assoc,bZ]
   congr 1
   funext k
   rw [Int.mul_pow,<- Int.pow_mul (a:=v),<- Int.pow_mul (a:=v),Nat.mul_comm i k]
   grind
  rw [e2,cY]
  congr 1
  funext k
  rw [MW,bZ]
  congr 1
  funext i
  rw [Int.one_mul]
 rw [e1];refine zAV hq (fun k hk Ka=>?_) ?_
 ·exact (Cg.rfl'.mul (hx k hk Ka)).trans (Cg.of_eq (Int.mul_zero _))
 ·refine (Cg.rfl'.mul Yj).trans (Cg.trans (Cg.of_eq (y:=(n:Int)*s*m q) (by grind)) ?_)
  exact (hs.mul Cg.rfl').trans (Cg.of_eq (Int.one_mul _))
end Go.Proofs.YtjipleoamlmkfaaGreat
namespace Go.Proofs.YtjipleoamlmkfaaGreat
theorem R9 {p n j:Nat} (l:List Nat) (h:Db p=true) (hn:Ss p n) (hj:n=2^j) {i:Nat} (hi:i<n) :
  Cg p (Bn p n j l i:Int) (((n^(p-2)%p:Nat):Int)*Ub (fun k=>((l.getD k 0:Nat):Int)) (((Wr p n^(p-2)%p:Nat):Int)^i) n):=by
 have hp:=nc h;have hv:j=0 \/ Cg p (((Wr p n^(p-2)%p:Nat):Int)^(2^(j-1))) (-1):=(C5 h hn hj).imp id fun h1=>F9 h1 (u7 h hn)
 have h1:=E3 p (by omega) j (ay p l) (Wr p n^(p-2)%p) hv i (by omega)
 rw [<- hj] at h1;refine (Cg.mod _).trans ?_;rw [Int.natCast_mul,Int.mul_comm];exact Cg.rfl'.mul (h1.trans (YL (fun k=>Cg.mod _) Cg.rfl' n))
theorem Z8 {p:Nat} {a b:Nat -> Int} (x:Int):∀ n,(∀ i,i<n -> Cg p (a i) (b i)) -> Cg p (Ub a x n) (Ub b x n)
 | 0,_=>Cg.rfl'
 | n+1,h=>(Z8 x n fun i hi=>h i (by omega)).add ((h n (by omega)).mul Cg.rfl')
theorem s7 {p n j:Nat} (l:List Nat) (h:Db p=true) (hn:Ss p n) (hj:n=2^j) {q:Nat} (hq:q<n) :
  Cg p (Ub (fun i=>(Bn p n j l i:Int)) ((Wr p n:Int)^q) n) ((l.getD q 0:Nat):Int) :=
 (Z8 _ n fun _ hi=>R9 l h hn hj hi).trans (zCb (fun k=>((l.getD k 0:Nat):Int)) _ _ _ hj (C5 h hn hj) (u7 h hn) (zCf h hj) q hq)
end Go.Proofs.YtjipleoamlmkfaaGreat
namespace Go.Proofs.YtjipleoamlmkfaaGreat
theorem I6 {a b:Nat -> Int} (x:Int):∀ n,(∀ i,i<n -> a i=b i) -> Ub a x n=Ub b x n
 | 0,_=>rfl
 | n+1,h=>by rw [Ub,Ub,I6 x n fun i hi=>h i (by omega),h n (by omega)]
theorem Y2 (a:Nat -> Nat) (k v:Nat) (x:Int):∀ n,k<n -> Ub (fun i=>(Pe a k v i:Int)) x n=Ub (fun i=>(a i:Int)) x n+((v:Int)-a k)*x^k
 | 0,h=>by omega
 | n+1,h=>by
  rw [Ub,Ub];by_cases e:k=n
  ·subst e
   rw [I6 (b:=fun i=>(a i:Int)) x k fun i hi=>by simp only [Pe];rw [if_neg (by omega)]]
   simp only [Pe,if_true]
   grind
  ·rw [Y2 a k v x n (by omega)]
   simp only [Pe];rw [if_neg (by omega)]
   omega
theorem p8 {p b:Nat} (hp:0<p) (l:List Nat) (x:Int) (m:Nat):∀ i,i <= m -> Cg p (Ub (fun k=>(uh p b l i k:Int)) x (b+m)) ((x^b-1)*Ub (fun k=>((l.getD k 0:Nat):Int)) x i)
 | 0,_=>by
  refine Cg.of_eq ?_;show Ub (fun k=>((0:Nat):Int)) x (b+m)=(x^b-1)*0
  rw [MW,Int.mul_zero,<- sX (b+m)]
  congr 1
  funext k
  simp
 | i+1,hi=>by
  have ih:=p8 hp (b:=b) l x m i (by omega)
  rw [uh];rw [Y2 _ _ _ _ _ (by omega),Y2 _ _ _ _ _ (by omega),Ub]
  generalize Pe (uh p b l i) i ((uh p b l i i+xg p (l.getD i 0))%p)=v;have h1:Cg p (((uh p b l i i+xg p (l.getD i 0))%p:Nat)-(uh p b l i i:Int)) (-((l.getD i 0:Nat):Int)):=by
   have:=((Cg.mod (p:=p) (uh p b l i i+xg p (l.getD i 0))).trans (Cg.trans (Cg.of_eq (Int.natCast_add _ _)) (Cg.rfl'.add (mX p (l.getD i 0) hp)))).add (Cg.rfl' (x:=-(uh p b l i i:Int)));exact Cg.trans (Cg.of_eq (by omega)) (this.trans (Cg.of_eq (by omega)))
  have h2:Cg p (((v (b+i)+l.getD i 0)%p:Nat)-(v (b+i):Int)) ((l.getD i 0:Nat):Int):=by
   have:=((Cg.mod (p:=p) (v (b+i)+l.getD i 0)).trans (Cg.of_eq (Int.natCast_add _ _))).add (Cg.rfl' (x:=-(v (b+i):Int)));exact Cg.trans (Cg.of_eq (by omega)) (this.trans (Cg.of_eq (by omega)))
  refine ((ih.add (h1.mul Cg.rfl')).add (h2.mul Cg.rfl')).trans (Cg.of_eq ?_);rw [Int.pow_add]
  grind
end Go.Proofs.YtjipleoamlmkfaaGreat
namespace Go.Proofs.YtjipleoamlmkfaaGreat
theorem zBb {p b:Nat} (hp:0<p) (hb:0<b) (l:List Nat):∀ i k,Cg p (uh p b l i k:Int) ((if b <= k /\ k<b+i then ((l.getD (k-b) 0:Nat):Int) else 0)-(if k<i then ((l.getD k 0:Nat):Int) else 0))
 | 0,k=>by
  rw [if_neg (by omega),if_neg (by omega)]
  exact Cg.of_eq rfl
 | i+1,k=>by
  have ih:=zBb hp hb l i;rw [uh];simp only [Pe];by_cases h1:k=b+i
  ·subst h1
   rw [if_pos rfl,if_neg (by omega),if_pos (by omega),Nat.add_sub_cancel_left]
   have h:=ih (b+i);rw [if_neg (by omega)] at h
   refine (Cg.mod _).trans (Cg.trans (Cg.of_eq (Int.natCast_add _ _)) ?_);by_cases h2:b+i<i+1
   ·omega
   ·rw [if_neg h2]
    rw [if_neg (by omega)] at h
    exact (h.add Cg.rfl').trans (Cg.of_eq (by omega))
  ·rw [if_neg h1]
   by_cases h2:k=i
   ·subst h2
    rw [if_pos rfl,if_pos (show k<k+1 by omega)]
    have h:=ih k;rw [if_neg (by omega:¬k<k)] at h
    refine (Cg.mod _).trans (Cg.trans (Cg.of_eq (Int.natCast_add _ _)) ?_);have e:(if b <= k /\ k<b+(k+1) then ((l.getD (k-b) 0:Nat):Int) else 0)=(if b <= k /\ k<b+k then ((l.getD (k-b) 0:Nat):Int) else 0):=by
     by_cases h3:b <= k
     ·rw [if_pos (by omega),if_pos (by omega)]
     ·rw [if_neg (by omega),if_neg (by omega)]
    rw [e];exact (h.add (mX p _ hp)).trans (Cg.of_eq (by omega))
   ·rw [if_neg h2]
    have h:=ih k;refine h.trans (Cg.of_eq ?_)
    congr 1
    ·by_cases h3:b <= k /\ k<b+i
     ·rw [if_pos h3,if_pos (by omega)]
     ·rw [if_neg h3,if_neg (by omega)]
    ·by_cases h3:k<i
     ·rw [if_pos h3,if_pos (by omega)]
     ·rw [if_neg h3,if_neg (by omega)]
theorem s8 (p b i:Nat):(jS p b).getD i 0=if i<b+1 then L5 p b i else 0:=fF _ _ _
theorem zAe {p b:Nat} (hp:1<p) (hb:0<b) (m:List Nat) (i:Nat):∀ j,j<b -> Cg p ((Lt p (jS p b) m (j+1)).getD i 0:Int) (-((m.getD i 0:Nat):Int))
 | 0,_=>by
  have hz:(jS p b).getD 0 0=p-1:=by rw [s8,if_pos (by omega)];rfl
  rw [Lt,vU,W0,if_neg (by omega),aZ,hz]
  have e0:(Lt p (jS p b) m 0).getD i 0=0:=by rw [Lt];rfl
  rw [e0,Nat.sub_zero];refine (Cg.mod _).trans ?_;rw [Nat.zero_add];refine (Cg.mod _).trans ?_;rw [Int.natCast_mul];have h1:Cg p ((p-1:Nat):Int) (-1):=⟨1,by omega⟩
  exact ((Cg.rfl' (x:=((m.getD i 0:Nat):Int))).mul h1).trans (Cg.of_eq (by omega))
 | j+1,hj=>by
  have hz:(jS p b).getD (j+1) 0=0:=by
   rw [s8,if_pos (by omega),L5,if_neg (by omega),if_neg (by omega)]
  rw [zCp _ _ _ _ hz];exact (Cg.mod _).trans (zAe hp hb m i j (by omega))
theorem zCs {p b:Nat} (hp:1<p) (hb:0<b) (m:List Nat) (i:Nat):Cg p ((Ou p (jS p b) m).getD i 0:Int) ((if b <= i then ((m.getD (i-b) 0:Nat):Int) else 0)-((m.getD i 0:Nat):Int)):=by
 have hz:(jS p b).getD b 0=1:=by rw [s8,if_pos (by omega),L5,if_neg (by omega),if_pos rfl]
 obtain ⟨c,rfl⟩:∃ c,b=c+1:=⟨b-1,by omega⟩
 rw [Ou,z8,Lt,vU,W0,aZ,hz,Nat.mul_one];have h:=zAe hp hb m i c (by omega)
 refine (Cg.mod _).trans (Cg.trans (Cg.of_eq (Int.natCast_add _ _)) ?_);by_cases h1:i<c+1
 ·rw [if_pos h1,if_neg (by omega)]
  exact (h.add Cg.rfl').trans (Cg.of_eq (by omega))
 ·rw [if_neg h1,if_pos (by omega)]
  exact (h.add (Cg.mod _)).trans (Cg.of_eq (by omega))
theorem zAf {p b:Nat} (hp:1<p) (hb:0<b) (m:List Nat) (i:Nat):(Ou p (jS p b) m).getD i 0=uh p b m m.length i:=by
 refine Cg.eq (p:=p) ((zCs hp hb m i).trans (Cg.trans (Cg.of_eq ?_) (zBb (by omega) hb m m.length i).symm)) (zCq (by omega) _ _ _ _) (dC (by omega) _ _ _)
 congr 1
 ·by_cases h1:b <= i
  ·rw [if_pos h1]
   by_cases h2:i<b+m.length
   ·rw [if_pos ⟨h1,h2⟩]
   ·rw [if_neg (by omega),OX (by omega)];rfl
  ·rw [if_neg h1,if_neg (by omega)]
 ·by_cases h1:i<m.length
  ·rw [if_pos h1]
  ·rw [if_neg h1,OX (by omega)];rfl
theorem T6 {p a b:Nat}:∀ k,Cg p (MX p a b k:Int) ((a:Int)*(b:Int)^k)
 | 0=>Cg.of_eq (by rw [MX,Int.pow_zero,Int.mul_one])
 | k+1=>by
  rw [MX];refine (Cg.mod _).trans ?_;rw [Int.natCast_mul,Int.pow_succ,<- Int.mul_assoc];exact (T6 k).mul Cg.rfl'
theorem C6 {p s n:Nat} (k:Nat):Cg p (Qp p s n k:Int) ((s:Int)*(Wr p n:Int)^k):=(T6 k).trans ((Cg.mod s).mul Cg.rfl')
theorem J6 (a:Nat -> Int) (x:Int):∀ n,Ub a x (n+1)=a 0+x*Ub (fun i=>a (i+1)) x n
 | 0=>by simp [Ub]
 | n+1=>by
  rw [Ub,J6 a x n,Ub,Int.pow_succ]
  grind
theorem L9 {p x:Nat}:∀ l:List Nat,Cg p (FN p x l:Int) (Ub (fun i=>((l.getD i 0:Nat):Int)) (x:Int) l.length)
 | []=>Cg.rfl'
 | c :: l=>by
  rw [FN,List.length_cons,J6];refine (Cg.mod _).trans (Cg.trans (Cg.of_eq (Int.natCast_add _ _)) ?_);refine (((Cg.mod (FN p x l*x)).trans (Cg.trans (Cg.of_eq (Int.natCast_mul _ _)) ((L9 l).mul Cg.rfl'))).add Cg.rfl').trans (Cg.of_eq ?_);show Ub (fun i=>((l.getD i 0:Nat):Int)) (x:Int) l.length*(x:Int)+(c:Int)=(c:Int)+(x:Int)*Ub (fun i=>((l.getD i 0:Nat):Int)) (x:Int) l.length
  rw [Int.mul_comm,Int.add_comm]
theorem zAs {p x:Nat}:∀ k,Cg p (Pw p x k:Int) ((x:Int)^k)
 | 0=>Cg.rfl'
 | k+1=>by
  rw [Pw];refine (Cg.mod _).trans ?_;rw [Int.natCast_mul,Int.pow_succ];exact (zAs k).mul Cg.rfl'
theorem B9 {p x:Nat} (l:List Nat):∀ k,Cg p (evS p l (Pw p x) k:Int) (Ub (fun i=>((l.getD i 0:Nat):Int)) (x:Int) k)
 | 0=>Cg.rfl'
 | k+1=>by
  rw [evS,Ub];refine (Cg.mod _).trans (Cg.trans (Cg.of_eq (Int.natCast_add _ _)) ?_);refine (B9 l k).add ((Cg.mod _).trans ?_);rw [Int.natCast_mul];exact Cg.rfl'.mul (zAs k)
theorem TZ {p x:Nat} (l:List Nat):Cg p (oh p l x:Int) (Ub (fun i=>((l.getD i 0:Nat):Int)) (x:Int) l.length):=B9 l _
theorem SV {p:Nat} (hp:0<p) (l:List Nat) (x:Nat):oh p l x<p:=by
 rw [oh];cases l.length with
 | zero=>exact hp
 | succ k=>exact Nat.mod_lt _ hp
theorem zCe {p n i:Nat} {w v:Int} (h1:Cg p (w^n) 1) (h2:Cg p (w*v) 1) (hi:i<n):Cg p (w^((n-i)%n)) (v^i):=by
 have h3:Cg p (w^((n-i)%n)*w^i) 1:=by
  rcases Nat.eq_zero_or_pos i with h | h
  ·subst h
   rw [Nat.sub_zero,Nat.mod_self];exact Cg.of_eq (by simp)
  ·rw [Nat.mod_eq_of_lt (by omega),<- Int.pow_add,show n-i+i=n by omega]
   exact h1
 have h4:=B4 h2 i;have h5:Cg p (w^((n-i)%n)) (w^((n-i)%n)*(v^i*w^i)):=(Cg.of_eq (Int.mul_one _).symm).trans (Cg.rfl'.mul h4.symm);refine h5.trans ((Cg.of_eq ?_).trans ((h3.mul Cg.rfl').trans (Cg.of_eq (Int.one_mul _))));rw [Int.mul_comm (v^i),Int.mul_assoc]
theorem Q9 {p j:Nat} (l:List Nat) (h:Db p=true) (hn:Ss p l.length) (hj:l.length=2^j) {i:Nat} (hi:i<l.length):fW p l 1 i=Bn p l.length j l i:=by
 have hp:=nc h;refine Cg.eq (p:=p) ?_ (Nat.mod_lt _ (by omega)) (Nat.mod_lt _ (by omega))
 refine Cg.trans ?_ (R9 l h hn hj hi).symm;refine (Cg.mod _).trans ?_;rw [Int.natCast_mul,Int.mul_comm];have e1:(1%p)^(p-2)%p=1:=by rw [Nat.mod_eq_of_lt (show 1<p by omega),Nat.one_pow,Nat.mod_eq_of_lt (by omega)]
 rw [e1];refine Cg.mul ((T6 i).trans (Cg.of_eq ?_)) ?_
 ·rw [show ((1:Nat):Int)=1 from rfl,Int.one_pow,Int.mul_one]
 ·rw [p7]
  refine (L9 l).trans (YL (fun _=>Cg.rfl') ?_ _)
  refine (C6 _).trans (Cg.trans (Cg.of_eq ?_) (zCe (D5 h hn) (u7 h hn) hi));exact Int.one_mul _
def jW (L:Va) (msg Hi:List Nat):List Nat:=(List.range (L.block+Hi.length)).map (Nn L msg Hi)
def qX (L:Va) (q:List Nat):List Nat:=(List.range (L.block+q.length)).map (uh L.p L.block q q.length)
theorem zDg {L:Va} (hL:Vc L) {msg Hi:List Nat} (h1:msg.length=L.block) (h2:Hi.length=L.queries):U0 L msg Hi=jW L msg Hi:=by
 have hp:=nc hL.p;have hb:=hL.b1;have hk:=hL.k;obtain ⟨hlen,j,hj⟩:=sI hL;have bW:L.block.log2=j:=by rw [hj];exact Nat.log2_two_pow
 have Ot:(U0 L msg Hi).length=L.block+Hi.length:=by
  rw [U0,uZ];have h3:=lV L.p ((List.range msg.length).map (fW L.p msg 1)) (Ou L.p (jS L.p L.block) Hi);have h4:=TY L.p (jS L.p L.block) Hi;rw [z8] at h4;rw [List.length_map,List.length_range] at h3;omega
 refine DE (by rw [Ot,jW,List.length_map,List.length_range]) fun i hi=>?_
 rw [Ot] at hi;rw [U0,tZ,vU,fF,zAf (by omega) (by omega),jW,fF,if_pos hi,Nn,JB]
 by_cases h3:i<L.block
 ·rw [if_pos (by omega),if_pos h3,bW,Q9 (j:=j) msg hL.p (by rw [h1];exact hlen) (by rw [h1];exact hj) (by omega),h1,Nat.add_comm]
 ·rw [if_neg (by omega),if_neg h3,Nat.zero_add]
  exact Nat.mod_eq_of_lt (dC (by omega) _ _ _)
theorem Y4 {L:Va} (hL:Vc L) {q:List Nat} (h:q.length=L.block+2*L.queries-1):YU L q=qX L q:=by
 have hp:=nc hL.p;have hb:=hL.b1;have hk:=hL.k;have Ot:(YU L q).length=L.block+q.length:=by
  rw [YU,uZ];have h4:=TY L.p (jS L.p L.block) q;rw [z8] at h4;omega
 refine DE (by rw [Ot,qX,List.length_map,List.length_range]) fun i hi=>?_
 rw [Ot] at hi;rw [YU,tZ,zAf (by omega) (by omega),qX,fF,if_pos hi]
end Go.Proofs.YtjipleoamlmkfaaGreat
namespace Go.Proofs.YtjipleoamlmkfaaGreat
theorem u9 {p nb:Nat} (A B:Nat -> Nat) (x:Int):∀ n,Cg p (Ub (fun k=>(JB p nb A B k:Int)) x n) (Ub (fun k=>(A k:Int)) x n+Ub (fun k=>(B k:Int)) x (min n nb))
 | 0=>by rw [Nat.zero_min];exact Cg.rfl'
 | n+1=>by
  have ih:=u9 A B x (p:=p) (nb:=nb) n;rw [Ub,Ub];by_cases h:n<nb
  ·rw [show min (n+1) nb=n+1 by omega,Ub,JB,if_pos h]
   rw [show min n nb=n by omega] at ih
   refine (ih.add (((Cg.mod (A n+B n)).trans (Cg.of_eq (Int.natCast_add _ _))).mul (Cg.rfl' (x:=x^n)))).trans (Cg.of_eq ?_);rw [Int.add_mul];omega
  ·rw [show min (n+1) nb=nb by omega,JB,if_neg h]
   rw [show min n nb=nb by omega] at ih
   exact (ih.add Cg.rfl').trans (Cg.of_eq (by omega))
theorem G6 (f:Nat -> Nat) (x:Int) (n:Nat):Ub (fun i=>((((List.range n).map f).getD i 0:Nat):Int)) x n=Ub (fun i=>(f i:Int)) x n :=
 I6 x n fun i hi=>by rw [fF,if_pos hi]
theorem P7 {p n:Nat} (h:Db p=true) (hn:Ss p n) (k:Nat):Cg p (((Wr p n:Int)^k)^n) 1:=by
 rw [<- Int.pow_mul,Nat.mul_comm,Int.pow_mul];exact ((D5 h hn).pow k).trans (Cg.of_eq Int.one_pow)
theorem RZ {p n k:Nat}:Cg p (Qp p 1 n k:Int) ((Wr p n:Int)^k):=C6 k |>.trans (Cg.of_eq (Int.one_mul _))
theorem T9 {p:Nat} {x:Int} (h:Cg p x 1):Cg p (x-1) 0:=by
 obtain ⟨c,hc⟩:=h;exact ⟨c,by rw [<- hc];omega⟩
theorem zDh {L:Va} (hL:Vc L) {msg Hi:List Nat} (hm:∀ i,msg.getD i 0<L.p) {k:Nat} (hk:k<L.block):oh L.p (jW L msg Hi) (Qp L.p 1 L.block k)=msg.getD k 0:=by
 have hp:=nc hL.p;obtain ⟨hlen,j,hj⟩:=sI hL;have bW:L.block.log2=j:=by rw [hj];exact Nat.log2_two_pow
 refine Cg.eq (p:=L.p) ?_ (SV (by omega) _ _) (hm k)
 refine (TZ _).trans ?_;have hl:(jW L msg Hi).length=L.block+Hi.length:=by rw [jW,List.length_map,List.length_range]
 rw [hl,jW,G6];refine (YL (fun _=>Cg.rfl') RZ _).trans ?_
 refine (u9 _ _ _ _).trans ?_;rw [show min (L.block+Hi.length) L.block=L.block by omega]
 have hv:=p8 (p:=L.p) (b:=L.block) (by omega) Hi ((Wr L.p L.block:Int)^k) Hi.length Hi.length zR
 have h0:Cg L.p (((Wr L.p L.block:Int)^k)^L.block-1) 0:=T9 (P7 hL.p hlen k);have hi:=s7 (q:=k) msg hL.p hlen hj hk;rw [bW];refine ((hv.trans (h0.mul Cg.rfl')).add hi).trans (Cg.of_eq ?_);rw [Int.zero_mul,Int.zero_add]
theorem zCL {L:Va} (hL:Vc L) (q:List Nat) (k:Nat):oh L.p (qX L q) (Qp L.p 1 L.block k)=0:=by
 have hp:=nc hL.p;obtain ⟨hlen,j,hj⟩:=sI hL;refine Cg.eq (p:=L.p) ?_ (SV (by omega) _ _) (by omega)
 refine (TZ _).trans ?_;have hl:(qX L q).length=L.block+q.length:=by rw [qX,List.length_map,List.length_range]
 rw [hl,qX,G6];refine (YL (fun _=>Cg.rfl') RZ _).trans ?_
 have hv:=p8 (p:=L.p) (b:=L.block) (by omega) q ((Wr L.p L.block:Int)^k) q.length q.length zR
 have h0:Cg L.p (((Wr L.p L.block:Int)^k)^L.block-1) 0:=T9 (P7 hL.p hlen k);refine (hv.trans (h0.mul Cg.rfl')).trans (Cg.of_eq ?_);rw [Int.zero_mul]
 rfl
def dY (p:Nat) (f:Nat -> Nat):Nat -> Nat
 | 0=>0
 | k+1=>(dY p f k+f k)%p
theorem I5 {p:Nat} (f:Nat -> Nat):∀ k,Cg p (dY p f k:Int) (Sb (fun i=>(f i:Int)) k)
 | 0=>Cg.rfl'
 | k+1=>by
  rw [dY,Sb];exact (Cg.mod _).trans (Cg.trans (Cg.of_eq (Int.natCast_add _ _)) ((I5 f k).add Cg.rfl'))
theorem zAX {p:Nat} (hp:0<p) (f:Nat -> Nat):∀ k,dY p f k<p
 | 0=>hp
 | _+1=>Nat.mod_lt _ hp
theorem zAt {p n:Nat} {x:Int} (h:Cg p (x^n) 1) (i:Nat):Cg p (x^i) (x^(i%n)):=by
 have e:=Nat.div_add_mod i n;rw [<- e];rw [Int.pow_add,Int.pow_mul,Nat.mul_add_mod,Nat.mod_mod];exact ((h.pow _).mul Cg.rfl').trans (Cg.of_eq (by rw [Int.one_pow,Int.one_mul]))
theorem zCv {p n:Nat} (h:Db p=true) (hn:Ss p n) (i:Nat):Cg p (Ub (fun _=>1) ((Wr p n:Int)^i) n) (if i%n=0 then (n:Int) else 0):=by
 obtain ⟨j,hj⟩:=hn.two;have h1:=zAt (D5 h hn) i;refine (YL (fun _=>Cg.rfl') h1 n).trans ?_
 split
 ·rename_i h0
  rw [h0,Int.pow_zero];exact Cg.of_eq (F6 n)
 ·rename_i h0
  have oa:i%n<n:=Nat.mod_lt _ hn.pos;rcases C5 h hn hj with h2 | h2
  ·subst h2
   rw [hj] at h0 oa;omega
  ·have:=Q7 (p:=p) (j:=j) (d:=i%n) h2 (by omega) (by rw [<- hj];exact oa)
   rw [<- hj] at this;exact this
theorem zDw {p n m:Nat} (h:Db p=true) (hn:Ss p n) (a:Nat -> Int):Cg p (Sb (fun k=>Ub a ((Wr p n:Int)^k) m) n) ((n:Int)*Sb (fun i=>if i%n=0 then a i else 0) m):=by
 have e1:Sb (fun k=>Ub a ((Wr p n:Int)^k) m) n=Sb (fun i=>a i*Ub (fun _=>1) ((Wr p n:Int)^i) n) m:=by
  have e2:(fun k=>Ub a ((Wr p n:Int)^k) m)=fun k=>Sb (fun i=>a i*((Wr p n:Int)^k)^i) m:=by funext k;rw [MW]
  rw [e2,cY]
  congr 1
  funext i
  rw [MW,bZ]
  congr 1
  funext k
  rw [Int.one_mul,<- Int.pow_mul,<- Int.pow_mul,Nat.mul_comm]
 rw [e1,bZ];refine qD m fun i _=>?_
 refine (Cg.rfl'.mul (zCv h hn i)).trans (Cg.of_eq ?_);split
 ·rw [Int.mul_comm]
 ·rw [Int.mul_zero,Int.mul_zero]
theorem b8 {g:Nat -> Int} {s:Nat}:∀ t,(∀ i,i<t -> g (s+i)=0) -> Sb g (s+t)=Sb g s
 | 0,_=>rfl
 | t+1,h=>by
  rw [<- Nat.add_assoc,Sb,b8 t fun i hi=>h i (by omega),h t (by omega)]
  omega
theorem zAY {n:Nat} (hn:0<n) (a:Nat -> Int):∀ q,Sb (fun i=>if i%n=0 then a i else 0) (q*n+1)=a 0+Sb (fun k=>a ((k+1)*n)) q
 | 0=>by
  rw [Nat.zero_mul];simp [Sb]
 | q+1=>by
  have h1:=zAY hn a q;have h2:=b8 (g:=fun i=>if i%n=0 then a i else 0) (s:=q*n+1) (n-1) fun i hi=>by
   rw [if_neg];rw [show q*n+1+i=(1+i)+n*q by rw [Nat.mul_comm];omega,Nat.add_mul_mod_self_left,Nat.mod_eq_of_lt (by omega)]
   omega
  rw [Nat.succ_mul,show q*n+n+1=(q*n+1+(n-1))+1 by omega,Sb,h2,h1,show q*n+1+(n-1)=(q+1)*n by rw [Nat.succ_mul];omega,Sb]
  rw [if_pos (Nat.mul_mod_left _ _)];omega
theorem U9 {p b:Nat} (hp:0<p) (l:List Nat):∀ q,Cg p (iu p b l q:Int) (-(Sb (fun k=>((l.getD ((k+1)*b-1) 0:Nat):Int)) q))
 | 0=>Cg.rfl'
 | q+1=>by
  rw [iu,Sb];refine (Cg.mod _).trans (Cg.trans (Cg.of_eq (Int.natCast_add _ _)) ?_);exact ((U9 hp l q).add (mX p _ hp)).trans (Cg.of_eq (by omega))
theorem zCj {L:Va} (hL:Vc L) (l:List Nat):dY L.p (fun k=>oh L.p (Rk L l) (Qp L.p 1 L.block k)) L.block=0:=by
 have hp:=nc hL.p;have hb:=hL.b1;obtain ⟨hlen,j,hj⟩:=sI hL;refine Cg.eq (p:=L.p) ?_ (zAX (by omega) _ _) (by omega)
 refine (I5 _ _).trans ?_;refine (qD (g:=fun k=>Ub (fun i=>(((Rk L l).getD i 0:Nat):Int)) ((Wr L.p L.block:Int)^k) (Rk L l).length) L.block fun k _=>(TZ _).trans (YL (fun _=>Cg.rfl') RZ _)).trans ?_
 refine (zDw hL.p hlen _).trans ?_;have hl:(Rk L l).length=l.length / L.block*L.block+1+l.length%L.block:=by
  have:=Nat.div_add_mod l.length L.block;rw [Rk,List.length_cons,Nat.mul_comm];omega
 have hf:=b8 (g:=fun i=>if i%L.block=0 then (((Rk L l).getD i 0:Nat):Int) else 0) (s:=l.length / L.block*L.block+1) (l.length%L.block) fun i hi=>by
  have hm:l.length%L.block<L.block:=Nat.mod_lt _ (by omega)
  rw [if_neg];rw [show l.length / L.block*L.block+1+i=(1+i)+L.block*(l.length / L.block) by rw [Nat.mul_comm];omega,Nat.add_mul_mod_self_left,Nat.mod_eq_of_lt (by omega)]
  omega
 rw [hl,hf,zAY (by omega)]
 have e0:((((Rk L l).getD 0 0:Nat):Int))=(iu L.p L.block l (l.length / L.block):Int):=rfl;have e1:(fun k=>(((Rk L l).getD ((k+1)*L.block) 0:Nat):Int))=fun k=>((l.getD ((k+1)*L.block-1) 0:Nat):Int):=by
  funext k
  have:0<(k+1)*L.block:=Nat.mul_pos (by omega) (by omega)
  obtain ⟨c,hc⟩:∃ c,(k+1)*L.block=c+1:=⟨(k+1)*L.block-1,by omega⟩
  rw [hc,Rk,Nat.add_sub_cancel]
  rfl
 rw [e0,e1];refine (Cg.rfl'.mul (((U9 (by omega) l _).add Cg.rfl').trans (Cg.of_eq (Int.add_left_neg _)))).trans (Cg.of_eq ?_)
 rw [Int.mul_zero]
 rfl
theorem C8 {p n:Nat} (hn:0<n) (l:List Nat) (s:Nat) (x:Int) (hx:Cg p (x^n) 1):∀ i,Cg p (Ub (fun k=>(Ck p n l s i k:Int)) x n) (Ub (fun k=>((l.getD k 0:Nat):Int)) ((s:Int)*x) i)
 | 0=>by
  refine Cg.of_eq ?_;show Ub (fun k=>((0:Nat):Int)) x n=0
  rw [MW,<- sX n]
  congr 1
  funext k
  simp
 | i+1=>by
  have ih:=C8 hn l s x hx i;rw [Ck,Y2 _ _ _ _ _ (Nat.mod_lt _ hn),Ub];refine ih.add ?_;have h1:Cg p (((Ck p n l s i (i%n)+l.getD i 0*Jp p s i%p)%p:Nat)-(Ck p n l s i (i%n):Int)) (((l.getD i 0:Nat):Int)*(s:Int)^i):=by
   have h2:Cg p ((l.getD i 0*Jp p s i%p:Nat):Int) (((l.getD i 0:Nat):Int)*(s:Int)^i):=(Cg.mod _).trans (Cg.trans (Cg.of_eq (Int.natCast_mul _ _)) (Cg.rfl'.mul (W4 p s i)));have h3:=((Cg.mod (p:=p) (Ck p n l s i (i%n)+l.getD i 0*Jp p s i%p)).trans (Cg.trans (Cg.of_eq (Int.natCast_add _ _)) (Cg.rfl'.add h2))).add (Cg.rfl' (x:=-(Ck p n l s i (i%n):Int)));exact Cg.trans (Cg.of_eq (by omega)) (h3.trans (Cg.of_eq (by omega)))
  refine (h1.mul (zAt hx i).symm).trans (Cg.of_eq ?_);rw [Int.mul_pow,Int.mul_assoc]
theorem O6 {p n j s k:Nat} (h:Db p=true) (hn:Ss p n) (hj:n=2^j) (l:List Nat) (hk:k<n):Zf p n j l s k=oh p l (Qp p s n k):=by
 have hp:=nc h;refine Cg.eq (p:=p) ?_ (DM (by omega) _ _ _ _ _) (SV (by omega) _ _)
 have h1:=E3 p (by omega) j (Ck p n l (s%p) l.length) (Wr p n) (C5 h hn hj) k (by rw [<- hj];exact hk)
 rw [<- hj] at h1;refine h1.trans ((C8 hn.pos l _ _ (P7 h hn k) _).trans (Cg.trans ?_ (TZ l).symm));exact YL (fun _=>Cg.rfl') ((((Cg.mod s).mul Cg.rfl')).trans (C6 k).symm) _
end Go.Proofs.YtjipleoamlmkfaaGreat
namespace Go.Proofs.YtjipleoamlmkfaaGreat
open Go.RowKit
theorem dM (B:Nat) (v:List Nat) (n:Nat):(Dl B v n).length=n:=by simp [Dl]
theorem jt (B:Nat) (l:Nat -> List Nat) (ps:Nat -> Nat):∀ i,(Ek B l ps (i+1)).length=(Ek B l ps i).length+ps i:=fun i=>by rw [XG,List.length_append,dM]
theorem XI (L:Va) (rows:List Ya) (ws:List Nat) (pu:Nat):(Ew L rows ws pu).length=L.a+L.b+L.b+L.b:=by
 unfold Ew Io;rw [jt,jt,jt,jt];show 0+L.a+L.b+L.b+L.b=_
 omega
theorem WG {B:Nat} {l:Nat -> List Nat} {ps:Nat -> Nat} {r:List Nat} (h:r∈Io B l ps):∃ i k,i<4 /\ k<ps i /\ r=wv B (l i) k:=by
 unfold Io Ek at h;obtain ⟨i,hi,hr⟩:=List.mem_flatMap.1 h;obtain ⟨k,hk,rfl⟩:=List.mem_map.1 hr;exact ⟨i,k,List.mem_range.1 hi,List.mem_range.1 hk,rfl⟩
theorem ZO {L:Va} {rows:List Ya} {ws:List Nat} {pu:Nat} {r:List Nat} (h:r∈Ew L rows ws pu):r.length=L.block:=by
 obtain ⟨i,k,-,-,rfl⟩:=WG h;simp [wv]
theorem GH {l:List Nat} {p:Nat} (hp:0<p) (h:∀ x∈l,x<p) (i:Nat):l.getD i 0<p:=by
 rw [List.getD_eq_getElem?_getD];cases e:l[i]? with
 | none=>exact hp
 | some x=>exact h x (List.mem_of_getElem? e)
theorem zCo {L:Va} {rows:List Ya} {ws:List Nat} {pu:Nat} (hp:0<L.p) (hw:∀ x∈ws,x<L.p) {r:List Nat} (h:r∈Ew L rows ws pu) (j:Nat):r.getD j 0<L.p:=by
 obtain ⟨i,k,hi,-,rfl⟩:=WG h;rw [wv,fF];split
 ·refine GH hp ?_ _
  rcases (show i=0 \/ i=1 \/ i=2 \/ i=3 by omega) with rfl | rfl | rfl | rfl
  ·exact fun x hx=>hw x (List.mem_of_mem_drop hx)
  all_goals
   intro x hx;obtain ⟨r,-,rfl⟩:=List.mem_map.1 hx;exact xO hp _ _
 ·exact hp
theorem YO {F F':Nat -> Prop} {w w':World} (h:Moved F F' w w') {N:Nat} {V0:Nat -> Prop} (hN:N <= w.heap.size) (hV:∀ b,b<N -> F b -> V0 b):∀ b,b<N -> F' b -> V0 b:=fun b hb hf=>by
 rcases h.foot b hf with e | e
 ·exact hV b hb e
 ·omega
structure xh (V0:Nat -> Prop) (N:Nat) (V:Nat -> Prop) (w:World):Prop where
 size:N <= w.heap.size
 lt:∀ b,V b -> b<w.heap.size
 old:∀ b,b<N -> V b -> V0 b
theorem qt {V0 V V':Nat -> Prop} {N:Nat} {w w':World} (h:xh V0 N V w) (m:Moved V V' w w') (oa:∀ b,V' b -> b<w'.heap.size):xh V0 N V' w':=⟨Nat.le_trans h.size m.size,oa,YO m h.size h.old⟩
theorem Xi {V0 V:Nat -> Prop} {N:Nat} {w w':World} (h:xh V0 N V w) (m:Below w.heap.size w w'):xh V0 N V w':=⟨Nat.le_trans h.size m.size,fun b hb=>Nat.lt_of_lt_of_le (h.lt b hb) m.size,h.old⟩
theorem jN {V:Nat -> Prop} {w:World} (oa:∀ b,V b -> b<w.heap.size):xh V w.heap.size V w:=⟨zR,oa,fun _ _ h=>h⟩
theorem Fq {V0 V V':Nat -> Prop} {N:Nat} {w w':World} (h:xh V0 N V w) (m:Moved V V' w w'):Kf V0 N w w':=AD m h.size h.old
section
variable {P:Program} {l:List Oper} {hs tail:List Nat} {Q:Exit -> Act -> World -> Prop} {V0 V:Nat -> Prop} {N j:Nat} {t:TypeId} {z:Array Value} {rest:List Nat} {i:Nat} {o:Oper} {ta:Array Bool} {a:Act} {w:World}
end
def Vw:List Nat -> List (List Nat)
 | []=>[[]]
 | j :: js=>Vw js++(Vw js).map (j :: ·)
theorem uB (f:Nat -> Bool):∀ js:List Nat,js.filter f∈Vw js
 | []=>by simp [Vw]
 | j :: js=>by
  rw [Vw,List.mem_append];cases h:f j
  ·rw [List.filter_cons_of_neg (by rw [h];exact Bool.false_ne_true)]
   exact .inl (uB f js)
  ·rw [List.filter_cons_of_pos h]
   exact .inr (List.mem_map.2 ⟨_,uB f js,rfl⟩)
def Re (L:Array Bool) (S:List Nat):Array Bool:=S.foldl (fun L j=>L.setIfInBounds j true) L
theorem Cy:∀ (S:List Nat) (L:Array Bool) (i:Nat),(Re L S)[i]?=if i∈S then L[i]?.map (fun _=>true) else L[i]?
 | [],_,_=>by simp [Re]
 | j :: S,L,i=>by
  show (Re (L.setIfInBounds j true) S)[i]?=_
  rw [Cy S,Array.getElem?_setIfInBounds];by_cases e:j=i
  ·subst e
   by_cases hj:j<L.size
   ·simp [hj]
   ·simp [hj]
  ·have e':¬i=j:=fun h=>e h.symm
   simp [e,e']
theorem UC {S:List Nat} {L:Array Bool} {i:Nat} (h:i ∉ S):(Re L S).setIfInBounds i true=Re (L.setIfInBounds i true) S:=by
 refine Array.ext_getElem? fun k=>?_
 have Ra:∀ (S:List Nat) (L:Array Bool),(Re L S).size=L.size:=fun S=>by
  induction S with
  | nil=>intro L;rfl
  | cons j S ih=>intro L;show (Re (L.setIfInBounds j true) S).size=_;rw [ih];simp
 rw [Array.getElem?_setIfInBounds,Cy,Cy,Array.getElem?_setIfInBounds,Ra];by_cases e:i=k
 ·subst e
  simp [h]
 ·simp [e]
theorem bL {J:List Nat} {f f':Nat -> Bool} {L:Array Bool} {j:Nat} (hj:j∈J) (h1:f' j=true) (h2:∀ k,k≠j -> f' k=f k):(Re L (J.filter f)).setIfInBounds j true=Re L (J.filter f'):=by
 refine Array.ext_getElem? fun k=>?_
 have Ra:∀ (S:List Nat) (L:Array Bool),(Re L S).size=L.size:=fun S=>by
  induction S with
  | nil=>intro L;rfl
  | cons j S ih=>intro L;show (Re (L.setIfInBounds j true) S).size=_;rw [ih];simp
 rw [Array.getElem?_setIfInBounds,Cy,Cy,Ra];by_cases e:j=k
 ·subst e
  simp only [if_true,List.mem_filter,hj,h1,true_and];by_cases hs:j<L.size
  ·simp [hs]
  ·simp [hs]
 ·have e':k≠j:=fun h=>e h.symm
  simp only [e,if_false,List.mem_filter,h2 k e']
structure Es (V:Nat -> Prop) (N:Nat) (w:World) (js:List (Nat × TypeId × Array Value)) (f:Nat -> Bool) (gs:Nat -> Nat):Prop where
 blk:∀ x∈js,f x.1=true -> Blk w (gs x.1) x.2.1 x.2.2 /\ N <= gs x.1 /\ ¬V (gs x.1)
 dif:∀ x∈js,∀ y∈js,f x.1=true -> f y.1=true -> x.1≠y.1 -> gs x.1≠gs y.1
def RJ (gs:Nat -> Nat):Nat -> Value:=fun j=>.pointer (some ⟨gs j,0,none⟩)
def Au (gs:Nat -> Nat) (j g:Nat):Nat -> Nat:=fun k=>if k=j then g else gs k
theorem cR (gs:Nat -> Nat) (j g:Nat):RJ (Au gs j g)=Jh (RJ gs) j (.pointer (some ⟨g,0,none⟩)):=by
 funext k
 unfold RJ Au Jh;split <;> rfl
def mu (l:List Oper) (hs tail js:List Nat):List Nat -> Array Bool -> Bool
 | [],L=>(Vw js).all (fun S=>js.all (fun j=>S.contains j)||(!(Region.ready .any l.toArray (Re L S)).isEmpty&&(Region.ready .any l.toArray (Re L S)).all fun k=>js.contains k&&!S.contains k))&&Qr l hs tail (Re L js)
 | i :: rest,L=>decide (i<l.length)&&!js.contains i&&(js.all fun j=>Co l i j) &&
   ((Vw js).all fun S=>Region.free .any l.toArray (Re L S) i&&(Region.ready .any l.toArray (Re L S)).contains i&&(!hs.contains i||(Region.ready .any l.toArray (Re L S)).all fun k=>k == i||(js.contains k&&!S.contains k))) &&
   mu l hs tail js rest (L.setIfInBounds i true)
def Mx (l:List Oper) (js:List Nat):Bool:=decide js.Nodup&&js.all fun j=>decide (j<l.length)&&js.all fun k=>j == k||(dc l j).isNone||dc l j != dc l k
def Xn (P:Program) (l:List Oper) (hs tail:List Nat) (Q:Exit -> Act -> World -> Prop) (V0:Nat -> Prop) (N:Nat) (js:List (Nat × TypeId × Array Value)) (order:List Nat) (ta:Array Bool) (V:Nat -> Prop) (a:Act) (w:World):Prop :=
 Region.noSelect l.toArray=true -> mu l hs tail (js.map (·.1)) order ta=true -> Mx l (js.map (·.1))=true -> (∀ x∈js,∃ oj,l[x.1]?=some oj /\ fA P oj x.2.1 x.2.2) ->
  ∀ (f:Nat -> Bool) (gs:Nat -> Nat) (w1:World),Below w.heap.size w w1 -> Es V N w1 js f gs ->
   vh P l.toArray Q (Kf V0 N) (order.length+((js.map (·.1)).filter fun j=>!f j).length+tail.length) (Re ta ((js.map (·.1)).filter f)) (vd l (RJ gs) a ((js.map (·.1)).filter f)) w1
section
variable {P:Program} {l:List Oper} {hs tail:List Nat} {Q:Exit -> Act -> World -> Prop} {V0 V:Nat -> Prop} {N:Nat} {js:List (Nat × TypeId × Array Value)} {rest:List Nat} {i:Nat} {o:Oper} {ta:Array Bool} {a:Act} {w:World}
theorem iN:Es V N w js (fun _=>false) (fun _=>0):=⟨fun _ _ h=>(nomatch h),fun _ _ _ _ h=>(nomatch h)⟩
theorem fN {V':Nat -> Prop} {f:Nat -> Bool} {gs:Nat -> Nat} {w1 w2:World} (h:Es V N w1 js f gs) (hm:Moved V V' w1 w2):Es V' N w2 js f gs :=
 ⟨fun x hx hf=>let ⟨a,b,c⟩:=h.blk x hx hf;⟨a.moved hm c,b,Me hm a.lt c⟩,h.dif⟩
theorem jy {id:Nat} (V0 V:Nat -> Prop) (N:Nat) (hs order:List Nat) (js:List (Nat × TypeId × Array Value)) (tail:List Nat) (hm:P.follows .mixedOrders=true)
  (qv:∀ x∈js,∃ oj,l[x.1]?=some oj /\ fA P oj x.2.1 x.2.2)
  (Ia:(Region.noSelect l.toArray&&order.length+js.length+tail.length == l.length&&mu l hs tail (js.map (·.1)) order (List.replicate l.length false).toArray&&Mx l (js.map (·.1)))=true)
  (h:Xn P l hs tail Q V0 N js order (List.replicate l.length false).toArray V a w.drew):(Code.region id l.toArray true).wp P Q a w:=by
 simp only [Bool.and_eq_true,beq_iff_eq] at Ia;refine Nz (Kf V0 N) hm ?_;have:=h Ia.1.1.1 Ia.1.2 Ia.2 qv (fun _=>false) (fun _=>0) w.drew (Below.refl _ _) iN
 have e0:(js.map (·.1)).filter (fun _=>!false)=js.map (·.1):=List.filter_eq_self.2 (fun _ _=>rfl)
 rw [List.filter_eq_nil_iff.2 (fun _ _=>Bool.false_ne_true),e0,List.length_map] at this
 rw [<- Ia.1.1.2];rw [<- Ia.1.1.2] at this;exact this
theorem ly {order:List Nat} (h:∀ W,Hid (W=w) -> Kf V0 N w W -> Xn P l hs tail Q V0 N js order ta V a W):Xn P l hs tail Q V0 N js order ta V a w:=h w rfl ((Cb V0 N).refl w)
structure XK (l:List Oper) (hs js:List Nat) (i:Nat) (L:Array Bool):Prop where
 lt:i<l.length
 nj:i ∉ js
 ap:∀ j∈js,Co l i j=true
 fr:∀ f:Nat -> Bool,Region.free .any l.toArray (Re L (js.filter f)) i=true
 rd:∀ f:Nat -> Bool,(Region.ready .any l.toArray (Re L (js.filter f))).contains i=true
 hv:hs.contains i=true -> ∀ (f:Nat -> Bool),∀ k∈Region.ready .any l.toArray (Re L (js.filter f)),k=i \/ (k∈js /\ f k=false)
theorem KE {J:List Nat} (h:mu l hs tail J (i :: rest) ta=true):XK l hs J i ta /\ mu l hs tail J rest (ta.setIfInBounds i true)=true:=by
 unfold mu at h;simp only [Bool.and_eq_true,Bool.not_eq_true',decide_eq_true_eq] at h;obtain ⟨⟨⟨⟨h1,h2⟩,h3⟩,h4⟩,h5⟩:=h;rw [List.all_eq_true] at h3 h4;have h4':=fun f:Nat -> Bool=>h4 _ (uB f J)
 simp only [Bool.and_eq_true,Bool.or_eq_true,Bool.not_eq_true'] at h4';refine ⟨⟨h1,fun hj=>?_,h3,fun f=>(h4' f).1.1,fun f=>(h4' f).1.2,fun hh f k hk=>?_⟩,h5⟩
 ·rw [List.contains_iff_mem.2 hj] at h2;cases h2
 ·rcases (h4' f).2 with h6 | h6
  ·rw [hh] at h6;cases h6
  ·rw [List.all_eq_true] at h6
   have h7:=h6 k hk;simp only [Bool.or_eq_true,beq_iff_eq,Bool.and_eq_true,Bool.not_eq_true',List.contains_iff_mem] at h7;rcases h7 with h7 | ⟨h7,h8⟩
   ·exact .inl h7
   ·refine .inr ⟨h7,?_⟩
    cases hf:f k
    ·rfl
    ·rw [List.contains_iff_mem.2 (List.mem_filter.2 ⟨h7,hf⟩)] at h8;cases h8
structure JsOk (l:List Oper) (J:List Nat):Prop where
 nodup:J.Nodup
 lt:∀ j∈J,j<l.length
 dst:∀ j∈J,∀ k∈J,j≠k -> ∀ t,dc l j=some t -> dc l k≠some t
theorem tP {J:List Nat} (h:Mx l J=true):JsOk l J:=by
 unfold Mx at h;simp only [Bool.and_eq_true,decide_eq_true_eq] at h;have h2:=List.all_eq_true.1 h.2;simp only [Bool.and_eq_true,decide_eq_true_eq] at h2;refine ⟨h.1,fun j hj=>(h2 j hj).1,fun j hj k hk Ka t e e'=>?_⟩
 have h3:=List.all_eq_true.1 (h2 j hj).2 k hk;simp only [Bool.or_eq_true,beq_iff_eq,bne_iff_ne] at h3;rcases h3 with (h3 | h3) | h3
 ·exact Ka h3
 ·rw [e] at h3;cases h3
 ·exact h3 (e.trans e'.symm)
theorem Ny {j:Nat} {oj:Oper} (h:l[j]?=some oj):dc l j=oj.dst:=by
 unfold dc;rw [h]
 rfl
theorem JA (vs:Nat -> Value) (Kd:∀ cs b,o.op≠.select cs b) (ho:l[i]?=some o):∀ (S:List Nat) (a:Act),(∀ j∈S,Co l i j=true) -> execOp (vd l vs a S).eval o=execOp a.eval o /\ (∀ ops:Array Oper,ops=l.toArray -> Region.wanted o (yielded ops (vd l vs a S).tmps)=Region.wanted o (yielded ops a.tmps))
 | [],_,_=>⟨rfl,fun _ _=>rfl⟩
 | j :: S,a,h=>by
  have hj:=h j (by simp)
  have h0:∃ oj,l[j]?=some oj:=by
   unfold Co at hj;rw [ho] at hj;cases e:l[j]? with
   | none=>rw [e] at hj;cases hj
   | some oj=>exact ⟨oj,rfl⟩
  obtain ⟨oj,Ie⟩:=h0;obtain ⟨a1,a2,a3⟩:=Oper.apart_spec (yG hj ho Ie);have ih:=JA vs Kd ho S (a.put (dc l j) (vs j)) fun k hk=>h k (by simp [hk])
  rw [Ny Ie] at ih;refine ⟨?_,fun ops hops=>?_⟩
  ·show execOp (vd l vs (a.put (dc l j) (vs j)) S).eval o=_
   rw [Ny Ie];exact ih.1.trans (execOp_put _ Kd _ _ _ a3)
  ·show Region.wanted o (yielded ops (vd l vs (a.put (dc l j) (vs j)) S).tmps)=_
   rw [Ny Ie];refine (ih.2 ops hops).trans ?_;subst hops;exact wanted_put _ _ _ _ a3
theorem cF {S:List Nat} {vs:Nat -> Value} {v:Value} (ho:l[i]?=some o) (h:∀ j∈S,Co l i j=true):(vd l vs a S).put o.dst v=vd l vs (a.put o.dst v) S:=by
 refine (ZE l vs o.dst v S a fun j hj t e e'=>?_).symm
 have hj:=h j hj;cases Ie:l[j]? with
 | none=>unfold dc at e';rw [Ie] at e';cases e'
 | some oj =>
  obtain ⟨a1,a2,a3⟩:=Oper.apart_spec (yG hj ho Ie);rw [Ny Ie] at e';exact a2 t e e'
theorem vx {J:List Nat} {f:Nat -> Bool} (h:∀ j∈J,Co l i j=true):∀ j∈J.filter f,Co l i j=true:=fun j hj=>h j (List.mem_filter.1 hj).1
theorem UT {v:Value} (ho:l[i]?=some o) (hw:Region.wanted o (yielded l.toArray a.tmps)=true) (hF:Hid (xh V0 N V w)) (hQ:∀ c a w,Q (.panic c) (a.put o.dst v) w -> Q (.panic c) a w)
  (Xb:∀ w',Kf V0 N w w' -> (execOp a.eval o).run P w'= .ok (.value v) w') (h:Xn P l hs tail Q V0 N js rest (ta.setIfInBounds i true) V (a.put o.dst v) w):Xn P l hs tail Q V0 N js (i :: rest) ta V a w:=by
 intro hn Ia hj qv f gs w1 hb ig;obtain ⟨C,hr⟩:=KE Ia;have k:=h hn hr hj qv f gs w1 hb ig;have VX:=C.lt;have e:=Hq (h:=VX) ho;subst e;have Kd:∀ cs b,l[i].op≠.select cs b:=fun cs b=>Region.noSelect_spec hn i l[i] cs b (by rw [List.getElem?_toArray];exact ho)
 have hx:=JA (a:=a) (RJ gs) Kd ho _ (vx (f:=f) C.ap);rw [<- UC (fun hm=>C.nj (List.mem_filter.1 hm).1),<- cF ho (vx (f:=f) C.ap)] at k
 have:=Qg (a:=vd l (RJ gs) a ((js.map (·.1)).filter f)) i (Cb V0 N) C.lt hn (C.fr f) (C.rd f) hQ (.inl ⟨by rw [hx.2 _ rfl];exact hw,fun w' Dr=>by rw [hx.1];exact Xb w' ((Cb V0 N).trans _ _ _ (xf hb hF.out.size) Dr)⟩) k
 rwa [show (i :: rest).length+((js.map (·.1)).filter fun j=>!f j).length+tail.length=rest.length+((js.map (·.1)).filter fun j=>!f j).length+tail.length+1 by simp only [List.length_cons];omega]
theorem VT (ho:l[i]?=some o) (hw:Region.wanted o (yielded l.toArray a.tmps)=false) (hQ:∀ c a w,Q (.panic c) (a.put o.dst undef) w -> Q (.panic c) a w)
  (h:Xn P l hs tail Q V0 N js rest (ta.setIfInBounds i true) V (a.put o.dst undef) w):Xn P l hs tail Q V0 N js (i :: rest) ta V a w:=by
 intro hn Ia hj qv f gs w1 hb ig;obtain ⟨C,hr⟩:=KE Ia;have k:=h hn hr hj qv f gs w1 hb ig;have VX:=C.lt;have e:=Hq (h:=VX) ho;subst e;have Kd:∀ cs b,l[i].op≠.select cs b:=fun cs b=>Region.noSelect_spec hn i l[i] cs b (by rw [List.getElem?_toArray];exact ho)
 have hx:=JA (a:=a) (RJ gs) Kd ho _ (vx (f:=f) C.ap);rw [<- UC (fun hm=>C.nj (List.mem_filter.1 hm).1),<- cF ho (vx (f:=f) C.ap)] at k
 have:=Qg (a:=vd l (RJ gs) a ((js.map (·.1)).filter f)) i (Cb V0 N) C.lt hn (C.fr f) (C.rd f) hQ (.inr ⟨by rw [hx.2 _ rfl];exact hw,rfl⟩) k
 rwa [show (i :: rest).length+((js.map (·.1)).filter fun j=>!f j).length+tail.length=rest.length+((js.map (·.1)).filter fun j=>!f j).length+tail.length+1 by simp only [List.length_cons];omega]
theorem qg {a b:Prop} (h:a) (s:Imp a b:=by
 (repeat ((first | (apply Imp.via (VT rfl rfl (fun _ _ _ h=>h))) | (apply Imp.via (UT (v:=?_) rfl rfl Wa (fun _ _ _ h=>h) ?hr);case hr=>(intro w' hR;(first | have yi:=zD ((Cb _ _).trans _ _ _ da hR) | skip);go_simp;try with_reducible rfl)));simp only [Act.put,zLa,zLb,zLc]))
 exact Imp.rfl'):b:=s h
theorem NO {J:List (Nat × TypeId × Array Value)} {k:Nat} (h:k∈J.map (·.1)):∃ x∈J,x.1=k:=by
 obtain ⟨x,hx,e⟩:=List.mem_map.1 h;exact ⟨x,hx,e⟩
theorem bM {J:List Nat} {f f':Nat -> Bool} {j:Nat} (hn:J.Nodup) (hj:j∈J) (h0:f j=false) (h1:f' j=true) (h2:∀ k,k≠j -> f' k=f k):(J.filter fun k=>!f k).length=(J.filter fun k=>!f' k).length+1:=by
 induction J with
 | nil=>cases hj
 | cons x J ih =>
  obtain ⟨hx,CY⟩:=List.nodup_cons.1 hn;by_cases e:x=j
  ·subst e
   have:J.filter (fun k=>!f k)=J.filter (fun k=>!f' k):=List.filter_congr fun k hk=>by rw [h2 k (by rintro rfl;exact hx hk)]
   rw [List.filter_cons_of_pos (by rw [h0];rfl),List.filter_cons_of_neg (by rw [h1];exact Bool.false_ne_true),this]
   rfl
  ·have dw:j∈J:=by
    rcases List.mem_cons.1 hj with h | h
    ·exact absurd h.symm e
    ·exact h
   have:=ih CY dw;cases hf:f x
   ·rw [List.filter_cons_of_pos (by rw [hf];rfl),List.filter_cons_of_pos (by rw [h2 x e,hf];rfl)]
    simp only [List.length_cons];omega
   ·rw [List.filter_cons_of_neg (by rw [hf];exact Bool.false_ne_true),List.filter_cons_of_neg (by rw [h2 x e,hf];exact Bool.false_ne_true)]
    exact this
theorem BH {order:List Nat} (hF:xh V0 N V w) (hj:Mx l (js.map (·.1))=true) (qv:∀ x∈js,∃ oj,l[x.1]?=some oj /\ fA P oj x.2.1 x.2.2) {f:Nat -> Bool} {gs:Nat -> Nat} {w1:World} (hb:Below w.heap.size w w1) (ig:Es V N w1 js f gs) {k:Nat}
  (hk:k∈js.map (·.1)) (hf:f k=false) {fu:Nat} (hfu:order.length+((js.map (·.1)).filter fun j=>!f j).length+tail.length=fu+1)
  (ih:∀ (f':Nat -> Bool) (gs':Nat -> Nat) (w2:World),((js.map (·.1)).filter fun j=>!f' j).length<((js.map (·.1)).filter fun j=>!f j).length -> Below w.heap.size w w2 -> Es V N w2 js f' gs' ->
   vh P l.toArray Q (Kf V0 N) (order.length+((js.map (·.1)).filter fun j=>!f' j).length+tail.length) (Re ta ((js.map (·.1)).filter f')) (vd l (RJ gs') a ((js.map (·.1)).filter f')) w2) :
  wpS P l Q (Kf V0 N) k fu (Re ta ((js.map (·.1)).filter f)) (vd l (RJ gs) a ((js.map (·.1)).filter f)) w1:=by
 have J:=tP hj;obtain ⟨x,hx,rfl⟩:=NO hk;obtain ⟨oj,Ie,gj,hmj⟩:=qv x hx;have oa:=J.lt _ hk;have e:=Hq (h:=oa) Ie;subst e;refine ⟨oa,by simp [Region.wanted,gj],?_⟩
 unfold Oper.wp;rw [hmj];have ia:Below w1.heap.size w1 (w1.alloc (.cells x.2.2 x.2.1)):=(Below.refl _ w1).alloc zR _;have hVlt:∀ b,V b -> b<w1.heap.size:=fun b Qo=>Nat.lt_of_lt_of_le (hF.lt b Qo) hb.size
 refine ⟨xf ia (Nat.le_trans hF.size hb.size),?_⟩;have Ov:=bM (f:=f) (f':=fun k=>if k=x.1 then true else f k) J.nodup hk hf (if_pos rfl) (fun k Ka=>if_neg Ka)
 have:=ih (fun k=>if k=x.1 then true else f k) (Au gs x.1 w1.heap.size) (w1.alloc (.cells x.2.2 x.2.1)) (by omega) (ja hb ia) ⟨fun y hy hfy=>?_,fun y hy z hz hfy hfz Ka=>?_⟩
 ·rw [<- bL (f:=f) (f':=fun k=>if k=x.1 then true else f k) hk (if_pos rfl) (fun k Ka=>if_neg Ka),cR,
   bF l (RJ gs) x.1 _ f (fun k=>if k=x.1 then true else f k) _ a J.nodup hk hf (if_pos rfl) (fun k _ Ka=>if_neg Ka) (fun k hk' Ka t e=>J.dst _ hk k hk' (fun e=>Ka e.symm) t e),Ny Ie] at this
  rwa [show fu=order.length+((js.map (·.1)).filter fun j=>!(if j=x.1 then true else f j)).length+tail.length by omega]
 ·by_cases e:y.1=x.1
  ·have exy:y=x:=by
    refine Classical.byContradiction fun Ka=>?_
    obtain ⟨i,hi,rfl⟩:=List.getElem_of_mem hx;obtain ⟨i',Jt,rfl⟩:=List.getElem_of_mem hy;have hnd:=List.pairwise_iff_getElem.1 J.nodup;by_cases c:i<i'
    ·exact hnd i i' (by simpa using hi) (by simpa using Jt) c (by simpa using e.symm)
    ·by_cases c':i'<i
     ·exact hnd i' i (by simpa using Jt) (by simpa using hi) c' (by simpa using e)
     ·obtain rfl:i=i':=by omega
      exact Ka rfl
   subst exy;have eg:Au gs y.1 w1.heap.size y.1=w1.heap.size:=if_pos rfl;rw [eg];exact ⟨Blk.new w1 y.2.1 y.2.2,Nat.le_trans hF.size hb.size,fun hv=>Nat.lt_irrefl _ (hVlt _ hv)⟩
  ·have eg:Au gs x.1 w1.heap.size y.1=gs y.1:=if_neg e
   rw [eg];rw [if_neg e] at hfy;obtain ⟨b1,b2,b3⟩:=ig.blk y hy hfy;exact ⟨ea b1 ia,b2,b3⟩
 ·by_cases e1:y.1=x.1
  ·have e2:z.1≠x.1:=fun e2=>Ka (e1.trans e2.symm)
   rw [if_neg e2] at hfz;have:=(ig.blk z hz hfz).1.lt;unfold Au;rw [if_pos e1,if_neg e2];omega
  ·rw [if_neg e1] at hfy
   have hyl:=(ig.blk y hy hfy).1.lt;by_cases e2:z.1=x.1
   ·unfold Au
    rw [if_neg e1,if_pos e2];omega
   ·rw [if_neg e2] at hfz
    unfold Au;rw [if_neg e1,if_neg e2];exact ig.dif y hy z hz hfy hfz Ka
theorem SK {fuel:Nat} {L:Array Bool} {w:World} (M:uc (Kf V0 N)) (Ka:Region.ready .any l.toArray L≠[]) (h:∀ k∈Region.ready .any l.toArray L,wpS P l Q (Kf V0 N) k fuel L a w):vh P l.toArray Q (Kf V0 N) (fuel+1) L a w :=
 ⟨fun h0=>absurd h0 Ka,fun k hk=>FT M (h k hk)⟩
theorem MR {L:Array Bool} (h:(Region.ready .any l.toArray L).contains i=true):Region.ready .any l.toArray L≠[]:=fun e=>by rw [e] at h;simp at h
theorem TT (hh:hs.contains i=true) (ho:l[i]?=some o) (hF:Hid (xh V0 N V w))
  (h:∀ (_:Region.noSelect l.toArray=true) (_:i<l.length),mu l hs tail (js.map (·.1)) rest (ta.setIfInBounds i true)=true -> Mx l (js.map (·.1))=true -> (∀ x∈js,∃ oj,l[x.1]?=some oj /\ fA P oj x.2.1 x.2.2) -> (∀ j∈js.map (·.1),Co l i j=true) -> i ∉ js.map (·.1) ->
   ∀ (f:Nat -> Bool) (gs:Nat -> Nat) (w1:World),Below w.heap.size w w1 -> Es V N w1 js f gs ->
   wpS P l Q (Kf V0 N) i (rest.length+((js.map (·.1)).filter fun j=>!f j).length+tail.length) (Re ta ((js.map (·.1)).filter f)) (vd l (RJ gs) a ((js.map (·.1)).filter f)) w1):Xn P l hs tail Q V0 N js (i :: rest) ta V a w:=by
 intro hn Ia hj qv f gs w1 hb ig;obtain ⟨C,hr⟩:=KE Ia;obtain ⟨m,hm⟩:=zEX (((js.map (·.1)).filter fun j=>!f j).length)
 induction m using Nat.strongRecOn generalizing f gs w1 with
 | ind m ih =>
  subst hm;rw [show (i :: rest).length+((js.map (·.1)).filter fun j=>!f j).length+tail.length=rest.length+((js.map (·.1)).filter fun j=>!f j).length+tail.length+1 by simp only [List.length_cons];omega]
  refine SK (Cb V0 N) (MR (C.rd f)) fun k hk=>?_
  rcases C.hv hh f k hk with rfl | ⟨hkj,hkf⟩
  ·exact h hn C.lt hr hj qv C.ap C.nj f gs w1 hb ig
  ·refine BH (order:=i :: rest) (tail:=tail) hF.out hj qv hb ig hkj hkf (by simp only [List.length_cons];omega) fun f' gs' w2 oa xa OD=>?_
   exact ih _ oa f' gs' w2 xa OD rfl
theorem Cu {f:FuncId} {vals:Array Value} (hh:hs.contains i=true) (ho:l[i]?=some o) (hw:Region.wanted o (yielded l.toArray a.tmps)=true) (hF:Hid (xh V0 N V w))
  (Xb:∀ w,(execOp a.eval o).run P w= .ok (.enter f vals) w)
  (h:∀ w1,Below w.heap.size w w1 -> Calls P f vals w1 fun e w'=>∃ v V',e= .returned v /\ Moved V V' w1 w' /\ (∀ b,V' b -> b<w'.heap.size) /\ Xn P l hs tail Q V0 N js rest (ta.setIfInBounds i true) V' (a.put o.dst v) w'):Xn P l hs tail Q V0 N js (i :: rest) ta V a w:=by
 refine TT hh ho hF fun hn hi hr hj qv Oq hnj f' gs w1 hb ig=>?_
 have e:=Hq (h:=hi) ho;subst e;have Kd:∀ cs b,l[i].op≠.select cs b:=fun cs b=>Region.noSelect_spec hn i l[i] cs b (by rw [List.getElem?_toArray];exact ho)
 have hx:=JA (a:=a) (RJ gs) Kd ho _ (vx (f:=f') Oq);refine DT hi (by rw [hx.2 _ rfl];exact hw) ((h w1 hb).mono ?_) (fun w=>by rw [hx.1];exact Xb w)
 rintro e w' ⟨v,V',rfl,hm,oa,hz⟩;refine ⟨v,rfl,Fq (Xi hF.out hb) hm,?_⟩;have:=hz hn hr hj qv f' gs w' (Below.refl _ _) (fN ig hm)
 rwa [<- UC (fun hm=>hnj (List.mem_filter.1 hm).1),<- cF ho (vx (f:=f') Oq)] at this
theorem ky (jd:List (Option Tmp × Nat)) (hjd:((js.map (·.1)).map fun j=>(dc l j,j))=jd) (hF:Hid (xh V0 N V w))
  (h:∀ (gs:Nat -> Nat) (w1:World),Below w.heap.size w w1 -> Es V N w1 js (fun _=>true) gs -> Mi P l hs Q (Kf V0 N) tail (Re ta (js.map (·.1))) (vt a (RJ gs) jd) w1):Xn P l hs tail Q V0 N js [] ta V a w:=by
 intro hn Ia hj qv f gs w1 hb ig;unfold mu at Ia;rw [Bool.and_eq_true,List.all_eq_true] at Ia;obtain ⟨Ia,hk⟩:=Ia;obtain ⟨m,hm⟩:=zEX (((js.map (·.1)).filter fun j=>!f j).length)
 induction m using Nat.strongRecOn generalizing f gs w1 with
 | ind m ih =>
  subst hm;have h1:=Ia _ (uB f (js.map (·.1)))
  by_cases Te:∀ j∈js.map (·.1),f j=true
  ·have e1:(js.map (·.1)).filter f=js.map (·.1):=List.filter_eq_self.2 Te
   have e2:(js.map (·.1)).filter (fun j=>!f j)=[]:=List.filter_eq_nil_iff.2 fun j dw=>by rw [Te j dw];exact Bool.false_ne_true
   rw [e1,e2,X4,hjd];have:=h gs w1 hb ⟨fun x hx _=>ig.blk x hx (Te _ (List.mem_map.2 ⟨x,hx,rfl⟩)),fun x hx y hy _ _ Ka=>ig.dif x hx y hy (Te _ (List.mem_map.2 ⟨x,hx,rfl⟩)) (Te _ (List.mem_map.2 ⟨y,hy,rfl⟩)) Ka⟩ hn hk
   simpa using this
  ·have hns:¬((js.map (·.1)).all fun j=>((js.map (·.1)).filter f).contains j)=true:=fun h0=>Te fun j dw=>by
    have:=List.all_eq_true.1 h0 j dw;exact (List.mem_filter.1 (List.contains_iff_mem.1 this)).2
   rw [Bool.or_eq_true] at h1;replace h1:=h1.resolve_left hns;rw [Bool.and_eq_true] at h1;obtain ⟨hne0,h2⟩:=h1;have Ka:Region.ready .any l.toArray (Re ta ((js.map (·.1)).filter f))≠[]:=by simpa using hne0
   rw [List.all_eq_true] at h2;have ur:0<((js.map (·.1)).filter fun j=>!f j).length:=by
    obtain ⟨j,dw⟩:=Classical.not_forall.1 Te;obtain ⟨WX,DP⟩:=Classical.not_imp.1 dw;exact List.length_pos_of_mem (List.mem_filter.2 ⟨WX,by simp [Bool.eq_false_iff.2 DP]⟩)
   obtain ⟨fu,hfu⟩:∃ fu,([]:List Nat).length+((js.map (·.1)).filter fun j=>!f j).length+tail.length=fu+1:=⟨((js.map (·.1)).filter fun j=>!f j).length+tail.length-1,by simp only [List.length_nil];omega⟩
   rw [hfu];refine SK (Cb V0 N) Ka fun k hk'=>?_
   have h3:=h2 k hk';simp only [Bool.and_eq_true,Bool.not_eq_true',List.contains_iff_mem] at h3;have hkf:f k=false:=by
    cases hf:f k
    ·rfl
    ·have:=h3.2
     rw [List.contains_iff_mem.2 (List.mem_filter.2 ⟨h3.1,hf⟩)] at this;cases this
   exact BH (order:=[]) (tail:=tail) hF.out hj qv hb ig h3.1 hkf hfu fun f' gs' w2 oa xa OD=>ih _ oa f' gs' w2 xa OD rfl
end
def kZ (V:Nat -> Prop) (w w':World):Nat -> Prop:=fun b=>V b \/ (w.heap.size <= b /\ b<w'.heap.size)
end Go.Proofs.YtjipleoamlmkfaaGreat
namespace Go.Proofs.YtjipleoamlmkfaaGreat
def Fw (ts:List (Int × Nat)):List Nat:=ts.flatMap fun t=>[t.1.toNat,t.2]
def Gp (ts:List (Int × Nat)):List Nat:=ts.length :: Fw ts
def Lx (r:Ya):List Nat:=Gp (Dd r 0)++Gp (Dd r 1)++Gp (Dd r 2)
def Fk (p:Nat) (pub vars:Int) (rows:List Ya):List Nat:=[p,pub.toNat,vars.toNat,rows.length]++rows.flatMap Lx
def pd (p:Nat) (pub vars:Int) (rows:List Ya):Nat:=if Gb p pub vars rows then ji 21 (Fk p pub vars rows) else 0
def Qw (p:Nat) (pub vars:Int) (rows:List Ya) (i:Nat):List Nat:=[p,pub.toNat,vars.toNat,rows.length]++(rows.take i).flatMap Lx
def Dz (base:List Nat) (r:Ya):Nat -> List Nat
 | 0=>base
 | j+1=>Dz base r j++Gp (Dd r j)
def Kp (base:List Nat) (ts:List (Int × Nat)) (t:Nat):List Nat:=base++ts.length :: Fw (ts.take t)
theorem VQ (p:Nat) (pub vars:Int) (rows:List Ya) {i:Nat} (h:i<rows.length):Qw p pub vars rows (i+1)=Dz (Qw p pub vars rows i) rows[i] 3:=by
 unfold Qw;rw [List.take_succ_eq_append_getElem h,List.flatMap_append];simp [Dz,Lx]
theorem WQ (base:List Nat) (ts:List (Int × Nat)):Kp base ts ts.length=base++Gp ts:=by simp [Kp,Gp]
theorem YQ (base:List Nat) (ts:List (Int × Nat)):Kp base ts 0=base++[ts.length]:=by simp [Kp,Fw]
theorem XQ (base:List Nat) (ts:List (Int × Nat)) {t:Nat} (h:t<ts.length):Kp base ts (t+1)=Kp base ts t++[(ts.getD t (0,0)).1.toNat,(ts.getD t (0,0)).2]:=by
 unfold Kp Fw;rw [List.take_succ_eq_append_getElem h,List.flatMap_append,List.getD_eq_getElem?_getD,List.getElem?_eq_getElem h];simp
theorem BI (ts:List (Int × Nat)):(Fw ts).length=2*ts.length:=by
 induction ts with
 | nil=>rfl
 | cons t ts ih =>
  show ([t.1.toNat,t.2]++Fw ts).length=_
  rw [List.length_append,ih];simp
  omega
theorem tO (base:List Nat) (ts:List (Int × Nat)) {t:Nat} (h:t <= ts.length):(Kp base ts t).length=base.length+1+2*t:=by
 unfold Kp;rw [List.length_append,List.length_cons,BI,List.length_take,Nat.min_eq_left h];omega
theorem UQ (p:Nat) (pub vars:Int) (rows:List Ya):Qw p pub vars rows rows.length=Fk p pub vars rows:=by simp [Qw,Fk]
end Go.Proofs.YtjipleoamlmkfaaGreat
namespace Go.Proofs.YtjipleoamlmkfaaGreat
open Go.RowKit
theorem zCr {p:Nat} (hp:0<p) {a b:List Nat} {x:Nat} (h:x∈Ou p a b):x<p:=by
 unfold Ou at h;cases e:a.length with
 | zero=>rw [e] at h;cases h
 | succ k=>rw [e,Lt] at h;exact zDB hp h
end Go.Proofs.YtjipleoamlmkfaaGreat
namespace Go.Proofs.YtjipleoamlmkfaaGreat
def oY (p:Nat):List Nat :=
 if p=97 then [2,3] else if p=193 then [2,3] else if p=12289 then [2,3] else if p=18446744069414584321 then [2,3,5,17,257,65537] else [2]
theorem zB1 {p:Nat} (h:Db p=true):∀ q∈oY p,(p-1)%q=0 /\ sW p 64 (Yc p).1 ((p-1) / q)≠1 /\ sW p 64 (Yc p).1 ((p-1) / q)<p /\ (p-1) / q<2^64:=by
 rcases Hw h with rfl | rfl | rfl | rfl | rfl | rfl | rfl <;> decide +kernel
def YY:List (Nat × Nat) -> Nat
 | []=>1
 | (q,e) :: l=>q^e*YY l
def C3 (p:Nat):List (Nat × Nat) :=
 if p=97 then [(2,5),(3,1)] else if p=193 then [(2,6),(3,1)] else if p=12289 then [(2,12),(3,1)] else if p=18446744069414584321 then [(2,32),(3,1),(5,1),(17,1),(257,1),(65537,1)] else [(2,(Yc p).2.1)]
theorem zBM {p:Nat} (h:Db p=true):YY (C3 p)=p-1 /\ ((C3 p).map (·.1))=oY p:=by
 rcases Hw h with rfl | rfl | rfl | rfl | rfl | rfl | rfl <;> decide +kernel
theorem zBO {p q:Nat} (h:Db p=true) (hq:q∈oY p):2 <= q /\ q <= 65537:=by
 have:∀ q∈oY p,2 <= q /\ q <= 65537:=by
  rcases Hw h with rfl | rfl | rfl | rfl | rfl | rfl | rfl <;> decide +kernel
 exact this q hq
theorem K7 {p:Nat} {g:Int} (hg:∃ v,Cg p (g*v) 1):∀ (n a b:Nat),a+b <= n -> Cg p (g^a) 1 -> Cg p (g^b) 1 -> Cg p (g^Nat.gcd a b) 1
 | 0,a,b,h,ha,hb=>by
  have h1:a=0:=by omega
  have h2:b=0:=by omega
  subst h1 h2;exact ha
 | n+1,a,b,h,ha,hb=>by
  obtain ⟨v,hv⟩:=hg;rcases Nat.eq_zero_or_pos a with h0 | h0
  ·subst h0;rw [Nat.gcd_zero_left];exact hb
  rcases Nat.eq_zero_or_pos b with h1 | h1
  ·subst h1;rw [Nat.gcd_zero_right];exact ha
  have cancel:∀ s t:Nat,Cg p (g^(s+t)) 1 -> Cg p (g^s) 1 -> Cg p (g^t) 1:=fun s t h1 h2=>by
   rw [Int.pow_add] at h1;exact ((Cg.of_eq (Int.one_mul _).symm).trans (h2.symm.mul Cg.rfl')).trans h1
  rcases Nat.le_total a b with QW | QW
  ·obtain ⟨d,rfl⟩:∃ d,b=a+d:=⟨b-a,by omega⟩
   have:=K7 ⟨v,hv⟩ n a d (by omega) ha (cancel _ _ hb ha)
   rwa [Nat.gcd_self_add_right]
  ·obtain ⟨d,rfl⟩:∃ d,a=b+d:=⟨a-b,by omega⟩
   have:=K7 ⟨v,hv⟩ n d b (by omega) (cancel _ _ ha hb) hb
   rwa [Nat.gcd_self_add_left]
theorem zCJ:∀ (l:List (Nat × Nat)) (d:Nat),(∀ x∈l,∀ k,k∣x.1 -> k=1 \/ k=x.1) -> d∣YY l -> d≠YY l -> ∃ x∈l,d∣YY l / x.1
 | l,d,hp,hd,Ka=>by
  obtain ⟨m,hm⟩:=hd;have Qt:m≠1:=fun e=>by rw [e,Nat.mul_one] at hm;exact Ka hm.symm
  have key:∀ (l':List (Nat × Nat)),(∀ x∈l',∀ k,k∣x.1 -> k=1 \/ k=x.1) -> (∀ x∈l',¬x.1∣m) -> Nat.Coprime m (YY l'):=by
   intro l'
   induction l' with
   | nil=>intro _ _;exact Nat.coprime_one_right m
   | cons x l' ih =>
    intro h1 h2;have hc:Nat.Coprime m x.1:=by
     rcases h1 x (.head _) (Nat.gcd m x.1) (Nat.gcd_dvd_right _ _) with e | e
     ·exact e
     ·exact absurd (e ▸ Nat.gcd_dvd_left m x.1) (h2 x (.head _))
    exact Nat.Coprime.mul_right (Nat.Coprime.pow_right _ hc) (ih (fun y hy=>h1 y (.tail _ hy)) fun y hy=>h2 y (.tail _ hy))
  by_cases hx:∃ x∈l,x.1∣m
  ·obtain ⟨x,uw,c,hc⟩:=hx
   refine ⟨x,uw,?_⟩;rcases Nat.eq_zero_or_pos x.1 with h0 | h0
   ·rw [h0,Nat.div_zero]
    exact Nat.dvd_zero _
   ·rw [hm,hc,<- Nat.mul_assoc,Nat.mul_comm d x.1,Nat.mul_assoc,Nat.mul_div_cancel_left _ h0]
    exact Nat.dvd_mul_right _ _
  ·have Kk:=key l hp fun x hx' hd'=>hx ⟨x,hx',hd'⟩
   have sr:m∣YY l:=by rw [hm];exact Nat.dvd_mul_left _ _
   exact absurd (Kk.eq_one_of_dvd sr) Qt
end Go.Proofs.YtjipleoamlmkfaaGreat
namespace Go.Proofs.YtjipleoamlmkfaaGreat
theorem zAP:∀ q∈[2,3,5,17,257,65537],∀ k∈List.range 257,q%k=0 -> k=1 \/ k=q:=by decide +kernel
theorem zBN {p q:Nat} (h:Db p=true) (hq:q∈oY p):∀ k,k∣q -> k=1 \/ k=q:=by
 have Pb:q∈[2,3,5,17,257,65537]:=by
  have:∀ q∈oY p,q∈[2,3,5,17,257,65537]:=by
   rcases Hw h with rfl | rfl | rfl | rfl | rfl | rfl | rfl <;> decide +kernel
  exact this q hq
 obtain ⟨h2,hle⟩:=zBO h hq;intro k ⟨c,hc⟩;rcases Nat.lt_or_ge k 257 with hk | hk
 ·exact zAP q Pb k (List.mem_range.2 hk) (by rw [hc];exact Nat.mul_mod_right _ _)
 ·have Tq:c<257:=by
   rcases Nat.lt_or_ge c 257 with h' | h'
   ·exact h'
   ·have:=Nat.mul_le_mul hk h'
    omega
  rcases zAP q Pb c (List.mem_range.2 Tq) (by rw [hc];exact Nat.mul_mod_left _ _) with h' | h'
  ·right;rw [hc,h',Nat.mul_one]
  ·left
   rw [h'] at hc;have:q*1=q*k:=by rw [Nat.mul_one,Nat.mul_comm];exact hc
   exact (Nat.eq_of_mul_eq_mul_left (by omega) this).symm
theorem E9 {p k:Nat} (h:Db p=true) (h0:0<k) (hk:k<p-1):¬Cg p (((Yc p).1:Int)^k) 1:=by
 intro hc;have hp:=nc h;have hinv:∃ v,Cg p (((Yc p).1:Int)*v) 1:=⟨((Yc p).1:Int)^(p-2),by
  rw [Int.mul_comm,<- Int.pow_succ,show (p-2).succ=p-1 by omega]
  exact sY h⟩
 have hd:=K7 hinv _ k (p-1) zR hc (sY h);have xY:Nat.gcd k (p-1)∣p-1:=Nat.gcd_dvd_right _ _;have hdk:Nat.gcd k (p-1) <= k:=Nat.le_of_dvd h0 (Nat.gcd_dvd_left _ _);obtain ⟨e1,e2⟩:=zBM h;have hmem:∀ x∈C3 p,x.1∈oY p:=fun x hx=>by rw [<- e2];exact List.mem_map.2 ⟨x,hx,rfl⟩
 obtain ⟨x,hx,hdx⟩:=zCJ (C3 p) (Nat.gcd k (p-1)) (fun x hx=>zBN h (hmem x hx)) (by rw [e1];exact xY) (by rw [e1];omega)
 rw [e1] at hdx;obtain ⟨-,g1,g2,g3⟩:=zB1 h x.1 (hmem x hx);have hs:=X0 p 64 (Yc p).1 ((p-1) / x.1) g3;obtain ⟨c,Jk⟩:=hdx;have h1:Cg p (((Yc p).1:Int)^((p-1) / x.1)) 1:=by
  rw [Jk,Int.pow_mul];exact (hd.pow c).trans (Cg.of_eq Int.one_pow)
 exact g1 (Cg.eq (p:=p) (hs.trans h1) g2 (by omega))
theorem zAq:∀ (n:Nat) (f:Nat -> Nat),(∀ i,i<n+1 -> f i<n) -> (∀ i j,i<n+1 -> j<n+1 -> f i=f j -> i=j) -> False
 | 0,f,h,_=>absurd (h 0 (by omega)) (Nat.not_lt_zero _)
 | n+1,f,h,hi=>by
  have Ka:∀ i,i<n+1 -> f i≠f (n+1):=fun i h1 e=>by
   have:=hi i (n+1) (by omega) (by omega) e
   omega
  refine zAq n (fun i=>if f i=n then f (n+1) else f i) (fun i h1=>?_) fun i j h1 h2 e=>?_
  ·split
   ·rename_i e
    have h3:=Ka i h1;have h4:=h (n+1) (by omega)
    omega
   ·have:=h i (by omega)
    omega
  ·change (if f i=n then f (n+1) else f i)=(if f j=n then f (n+1) else f j) at e
   by_cases e1:f i=n <;> by_cases e2:f j=n
   ·exact hi i j (by omega) (by omega) (by omega)
   ·rw [if_pos e1,if_neg e2] at e
    exact absurd e.symm (Ka j h2)
   ·rw [if_neg e1,if_pos e2] at e
    exact absurd e (Ka i h1)
   ·rw [if_neg e1,if_neg e2] at e
    exact hi i j (by omega) (by omega) e
theorem onto {n:Nat} {f:Nat -> Nat} (h:∀ i,i<n -> f i<n) (hi:∀ i j,i<n -> j<n -> f i=f j -> i=j) {y:Nat} (hy:y<n):∃ i,i<n /\ f i=y:=by
 refine Classical.byContradiction fun pn=>?_
 have Ka:∀ i,i<n -> f i≠y:=fun i h1 e=>pn ⟨i,h1,e⟩
 obtain ⟨m,rfl⟩:∃ m,n=m+1:=⟨n-1,by omega⟩
 refine zAq m (fun i=>if f i=m then y else f i) (fun i h1=>?_) fun i j h1 h2 e=>?_
 ·split
  ·rename_i e
   have:=Ka i h1;omega
  ·have:=h i h1
   omega
 ·change (if f i=m then y else f i)=(if f j=m then y else f j) at e
  by_cases e1:f i=m <;> by_cases e2:f j=m
  ·exact hi i j h1 h2 (by omega)
  ·rw [if_pos e1,if_neg e2] at e
   exact absurd e.symm (Ka j h2)
  ·rw [if_neg e1,if_pos e2] at e
   exact absurd e (Ka i h1)
  ·rw [if_neg e1,if_neg e2] at e
   exact hi i j h1 h2 e
theorem one_ne {p:Nat} (h:Db p=true):¬Cg p (0:Int) 1:=by
 have hp:=nc h;intro hc;have:=Cg.eq (p:=p) (a:=0) (b:=1) hc (by omega) (by omega)
 omega
theorem zB2 {p a:Nat} (h:Db p=true) (h0:0<a) (ha:a<p):∃ k,(Yc p).1^k%p=a:=by
 have hp:=nc h;have ur:∀ i,0<(Yc p).1^i%p:=fun i=>by
  rcases Nat.eq_zero_or_pos ((Yc p).1^i%p) with e | e
  ·exfalso
   have h1:Cg p (((Yc p).1:Int)^i) 0:=by
    have h2:=Cg.mod (p:=p) ((Yc p).1^i);rw [e,Int.natCast_pow] at h2;exact h2.symm
   have h2:Cg p ((((Yc p).1:Int)^i)^(p-1)) 1:=by
    rw [<- Int.pow_mul,Nat.mul_comm,Int.pow_mul];exact ((sY h).pow i).trans (Cg.of_eq Int.one_pow)
   have h3:=(h1.pow (p-1)).symm.trans h2;rw [Int.zero_pow (by omega)] at h3
   exact one_ne h h3
  ·exact e
 obtain ⟨i,-,hi⟩:=onto (n:=p-1) (f:=fun i=>(Yc p).1^i%p-1) (fun i _=>by
   have:=ur i;have:=Nat.mod_lt ((Yc p).1^i) (show p > 0 by omega)
   show (Yc p).1^i%p-1<p-1
   omega) (fun i j h1 h2 e=>by
   have e':(Yc p).1^i%p=(Yc p).1^j%p:=by
    have:=ur i;have:=ur j;change (Yc p).1^i%p-1=(Yc p).1^j%p-1 at e
    omega
   have key:∀ i j,i<j -> j<p-1 -> (Yc p).1^i%p=(Yc p).1^j%p -> False:=fun i j hij hj e=>by
    have c1:Cg p (((Yc p).1:Int)^i) (((Yc p).1:Int)^j):=by
     have h1:=Cg.mod (p:=p) ((Yc p).1^i);have h2:=Cg.mod (p:=p) ((Yc p).1^j);rw [e] at h1;rw [Int.natCast_pow] at h1 h2;exact h1.symm.trans h2
    obtain ⟨d,rfl⟩:∃ d,j=i+d:=⟨j-i,by omega⟩
    rw [Int.pow_add] at c1;have c2:Cg p (((Yc p).1:Int)^(i*(p-2))*((Yc p).1:Int)^i) 1:=by
     rw [<- Int.pow_add,show i*(p-2)+i=(p-1)*i by
      rw [Nat.mul_comm (p-1),<- Nat.mul_succ]
      congr 1
      omega,Int.pow_mul]
     exact ((sY h).pow i).trans (Cg.of_eq Int.one_pow)
    have c3:=(Cg.rfl' (x:=((Yc p).1:Int)^(i*(p-2)))).mul c1;rw [<- Int.mul_assoc] at c3;have c4:Cg p (((Yc p).1:Int)^d) 1:=((Cg.of_eq (Int.one_mul _).symm).trans (c2.symm.mul Cg.rfl')).trans (c3.symm.trans c2);exact E9 h (by omega) (by omega) c4
   rcases Nat.lt_trichotomy i j with oa | heq | hgt
   ·exact absurd e' fun e=>key i j oa h2 e
   ·exact heq
   ·exact absurd e'.symm fun e=>key j i hgt h1 e) (y:=a-1) (by omega)
 refine ⟨i,?_⟩;have:=ur i;change (Yc p).1^i%p-1=a-1 at hi
 omega
theorem zCd {p a:Nat} (h:Db p=true) (h0:0<a) (ha:a<p):Cg p ((a:Int)*((a^(p-2)%p:Nat):Int)) 1:=by
 have hp:=nc h;obtain ⟨k,hk⟩:=zB2 h h0 ha;have h1:Cg p (a:Int) (((Yc p).1:Int)^k):=by
  have:=Cg.mod (p:=p) ((Yc p).1^k);rw [hk,Int.natCast_pow] at this;exact this
 refine (Cg.rfl'.mul (Cg.mod _)).trans ?_;rw [Int.natCast_pow,Int.mul_comm,<- Int.pow_succ,show (p-2).succ=p-1 by omega]
 refine (h1.pow _).trans ?_;rw [<- Int.pow_mul,Nat.mul_comm,Int.pow_mul];exact ((sY h).pow k).trans (Cg.of_eq Int.one_pow)
theorem zCa {p a:Nat} (h:Db p=true) (h0:¬Cg p (a:Int) 0):Cg p ((a:Int)*((a^(p-2)%p:Nat):Int)) 1:=by
 have hp:=nc h;have h1:a%p≠0:=fun e=>h0 (by
  have:=Cg.mod (p:=p) a;rw [e] at this;exact this.symm)
 have:=zCd h (Nat.pos_of_ne_zero h1) (Nat.mod_lt a (by omega))
 rw [<- Nat.pow_mod] at this;exact ((Cg.mod a).symm.mul Cg.rfl').trans this
theorem zCc {p:Nat} {x:Int} (h:Db p=true) (h0:¬Cg p x 0):∃ v,Cg p (x*v) 1:=by
 have hp:=nc h;obtain ⟨a,ha⟩:∃ a:Nat,(a:Int)=x%(p:Int):=⟨(x%(p:Int)).toNat,Int.toNat_of_nonneg (Int.emod_nonneg _ (by omega))⟩
 have hx:Cg p x (a:Int):=⟨x / (p:Int),by rw [ha];have:=Int.mul_ediv_add_emod x (p:Int);omega⟩
 exact ⟨_,(hx.mul Cg.rfl').trans (zCa h fun e=>h0 (hx.trans e))⟩
theorem zCt {p:Nat} {x y:Int} (h:Db p=true) (hxy:Cg p (x*y) 0):Cg p x 0 \/ Cg p y 0:=by
 by_cases hx:Cg p x 0
 ·exact .inl hx
 ·obtain ⟨v,hv⟩:=zCc h hx
  refine .inr ?_;have h1:Cg p y (v*(x*y)):=(Cg.of_eq (Int.one_mul y).symm).trans ((hv.symm.mul Cg.rfl').trans (Cg.of_eq (by rw [Int.mul_comm x v,Int.mul_assoc])))
  exact h1.trans ((Cg.rfl'.mul hxy).trans (Cg.of_eq (Int.mul_zero _)))
end Go.Proofs.YtjipleoamlmkfaaGreat
namespace Go.Proofs.YtjipleoamlmkfaaGreat
def PU (l:List Nat) (i:Nat):Int:=((l.getD i 0:Nat):Int)
def bg (l:List Nat) (x:Int):Int:=Ub (PU l) x l.length
theorem p9 {a:Nat -> Int} {x:Int} {m:Nat} (h:∀ i,m <= i -> a i=0):∀ t,Ub a x (m+t)=Ub a x m
 | 0=>rfl
 | t+1=>by
  rw [<- Nat.add_assoc,Ub,p9 h t,h (m+t) (by omega),Int.zero_mul,Int.add_zero]
theorem iZ (l:List Nat) (x:Int) {n:Nat} (h:l.length <= n):Ub (PU l) x n=bg l x:=by
 obtain ⟨t,rfl⟩:∃ t,n=l.length+t:=⟨n-l.length,by omega⟩
 exact p9 (fun i hi=>by rw [PU,OX hi];rfl) t
theorem D6 (a b:Nat -> Int) (x:Int):∀ n,Ub (fun i=>a i+b i) x n=Ub a x n+Ub b x n
 | 0=>rfl
 | n+1=>by rw [Ub,Ub,Ub,D6 a b x n,Int.add_mul];omega
theorem E6 (c:Int) (a:Nat -> Int) (x:Int):∀ n,Ub (fun i=>c*a i) x n=c*Ub a x n
 | 0=>by rw [Ub,Ub,Int.mul_zero]
 | n+1=>by rw [Ub,Ub,E6 c a x n,Int.mul_add,Int.mul_assoc]
theorem N6 (l:List Nat) (n:Nat) (x:Int):bg (FV l n) x=bg l x:=by
 rw [<- iZ l x (n:=(FV l n).length) (by rw [uZ];omega)]
 unfold bg
 congr 1
 funext i
 unfold PU;rw [tZ]
theorem JX {p:Nat} (a b:List Nat) (x:Int):Cg p (bg (XB p a b) x) (bg a x+bg b x):=by
 have hl:=lV p a b;rw [<- iZ (XB p a b) x (n:=max a.length b.length) hl,<- iZ a x (n:=max a.length b.length) (by omega),<- iZ b x (n:=max a.length b.length) (by omega),<- D6]
 refine YL (fun i=>?_) Cg.rfl' _
 unfold PU;rw [vU];exact (Cg.mod _).trans (Cg.of_eq (Int.natCast_add _ _))
theorem Z2 {p:Nat} (a:List Nat) (n:Nat) (x:Int):Cg p (bg (uy p a n) x) ((n:Int)*bg a x):=by
 rw [<- iZ (uy p a n) x (qW p a n),bg,<- E6];refine YL (fun i=>?_) Cg.rfl' _
 unfold PU;rw [aZ];exact (Cg.mod _).trans (Cg.of_eq (by rw [Int.natCast_mul,Int.mul_comm]))
theorem n9 (a:Nat -> Int) (x:Int) (k:Nat) (h:∀ i,i<k -> a i=0):∀ n,Ub a x (k+n)=x^k*Ub (fun i=>a (k+i)) x n
 | 0=>by
  show Ub a x k=x^k*0
  rw [Int.mul_zero,MW,<- sX k];have:∀ n,n <= k -> Sb (fun i=>a i*x^i) n=Sb (fun _=>0) n:=fun n=>by
   induction n with
   | zero=>exact fun _=>rfl
   | succ n ih=>intro hn;rw [Sb,Sb,ih (by omega),h n (by omega),Int.zero_mul]
  exact this k zR
 | n+1=>by
  rw [<- Nat.add_assoc,Ub,n9 a x k h n,Ub,Int.mul_add,Int.pow_add]
  congr 1
  rw [<- Int.mul_assoc,<- Int.mul_assoc,Int.mul_comm (a (k+n))]
theorem zBJ (a:List Nat) (k:Nat) (x:Int):bg (GU a k) x=x^k*bg a x:=by
 have e:(GU a k).length=k+a.length:=W7 a k;unfold bg;rw [e,n9 _ _ k (fun i hi=>by unfold PU;rw [W0,if_pos hi];rfl)]
 congr 2
 funext i
 unfold PU;rw [W0,if_neg (by omega),Nat.add_sub_cancel_left]
theorem C9 {p:Nat} (a b:List Nat) (x:Int):∀ k,Cg p (bg (Lt p a b k) x) (Ub (PU a) x k*bg b x)
 | 0=>Cg.of_eq (by rw [Lt,Ub,Int.zero_mul];rfl)
 | k+1=>by
  rw [Lt,Ub,Int.add_mul];refine (JX _ _ x).trans ((C9 a b x k).add ?_);rw [zBJ];refine (Cg.rfl'.mul (Z2 b _ x)).trans (Cg.of_eq ?_);rw [<- Int.mul_assoc,Int.mul_comm (x^k)]
  rfl
theorem L6 {p:Nat} (a b:List Nat) (x:Int):Cg p (bg (Ou p a b) x) (bg a x*bg b x):=C9 a b x _
theorem xS {p x:Nat} (l:List Nat):Cg p (oh p l x:Int) (bg l x):=TZ l
def RA (a:Nat -> Int) (r:Int) (n i:Nat):Int:=Ub (fun j=>a (i+j)) r (n-i)
theorem zAv (a:Nat -> Int) (r:Int) {n i:Nat} (h:i<n):RA a r n i=a i+r*RA a r n (i+1):=by
 unfold RA;rw [show n-i=(n-(i+1))+1 by omega,J6]
 rw [Nat.add_zero]
 congr 3
 funext j
 congr 1
 omega
theorem zAw (a:Nat -> Int) (r x:Int) (n:Nat):∀ m,m <= n -> Ub a x m=RA a r n 0+(x-r)*Ub (fun i=>RA a r n (i+1)) x m-RA a r n m*x^m
 | 0,_=>by rw [Ub,Ub,Int.mul_zero,Int.pow_zero];omega
 | m+1,h=>by
  rw [Ub,zAw a r x n m (by omega),Ub,zAv a r (i:=m) (by omega),Int.pow_succ]
  grind
theorem zCM (a:Nat -> Int) (r x:Int) (n:Nat):Ub a x (n+1)=Ub a r (n+1)+(x-r)*Ub (fun i=>RA a r (n+1) (i+1)) x n:=by
 have h:=zAw a r x (n+1) (n+1) zR;have h1:RA a r (n+1) (n+1)=0:=by unfold RA;rw [Nat.sub_self];rfl
 have h0:RA a r (n+1) 0=Ub a r (n+1):=by
  unfold RA;rw [Nat.sub_zero]
  congr 1
  funext j
  rw [Nat.zero_add]
 rw [h1,h0,Int.zero_mul,Int.sub_zero] at h;have e:Ub (fun i=>RA a r (n+1) (i+1)) x (n+1)=Ub (fun i=>RA a r (n+1) (i+1)) x n:=by rw [Ub,h1,Int.zero_mul,Int.add_zero]
 rw [h,e]
theorem F8 {p:Nat} (h:Db p=true):∀ (n:Nat) (a:Nat -> Int) (xs:Nat -> Int),(∀ i j,i<n -> j<n -> i≠j -> ¬Cg p (xs i) (xs j)) -> (∀ k,k<n -> Cg p (Ub a (xs k) n) 0) -> ∀ i,i<n -> Cg p (a i) 0
 | 0,_,_,_,_=>fun i hi=>absurd hi (Nat.not_lt_zero _)
 | n+1,a,xs,hx,hr=>by
  have hq:∀ i,i<n -> Cg p (RA a (xs n) (n+1) (i+1)) 0:=F8 h n (fun i=>RA a (xs n) (n+1) (i+1)) xs (fun i j hi hj Ka=>hx i j (by omega) (by omega) Ka) fun k hk=>by
   have h1:=hr k (by omega)
   rw [zCM a (xs n) (xs k) n] at h1;have h2:=hr n (by omega)
   have h3:Cg p ((xs k-xs n)*Ub (fun i=>RA a (xs n) (n+1) (i+1)) (xs k) n) 0:=by
    have:=(h1.trans h2.symm);obtain ⟨c,hc⟩:=this;exact ⟨c,by rw [<- hc];omega⟩
   rcases zCt h h3 with h4 | h4
   ·exact absurd (by obtain ⟨c,hc⟩:=h4;exact ⟨c,by rw [<- hc];omega⟩) (hx k n (by omega) (by omega) (by omega))
   ·exact h4
  have cq:∀ i,i<n+1 -> Cg p (RA a (xs n) (n+1) (i+1)) 0:=fun i hi=>by
   rcases Nat.lt_or_ge i n with h1 | h1
   ·exact hq i h1
   ·have e:i=n:=by omega
    subst e;unfold RA;rw [Nat.sub_self];exact Cg.rfl'
  have h0:Cg p (RA a (xs n) (n+1) 0) 0:=by
   have e:RA a (xs n) (n+1) 0=Ub a (xs n) (n+1):=by
    unfold RA;rw [Nat.sub_zero]
    congr 1
    funext j
    rw [Nat.zero_add]
   rw [e];exact hr n (by omega)
  intro i hi;have hs:=zAv a (xs n) hi;have h1:Cg p (RA a (xs n) (n+1) i) 0:=by
   cases i with
   | zero=>exact h0
   | succ i=>exact cq i (by omega)
  rw [hs] at h1;have h2:=(Cg.rfl' (p:=p) (x:=xs n)).mul (cq i hi);rw [Int.mul_zero] at h2;obtain ⟨c,hc⟩:=h1;obtain ⟨d,hd⟩:=h2;exact ⟨c-d,by rw [Int.mul_sub,<- hc,<- hd];omega⟩
theorem zDk {p n:Nat} (h:Db p=true) {a b:Nat -> Int} {xs:Nat -> Int} (hx:∀ i j,i<n -> j<n -> i≠j -> ¬Cg p (xs i) (xs j)) (hv:∀ k,k<n -> Cg p (Ub a (xs k) n) (Ub b (xs k) n)):∀ i,i<n -> Cg p (a i) (b i):=fun i hi=>by
 have:=F8 h n (fun i=>a i+(-1)*b i) xs hx (fun k hk=>by
  rw [D6,E6];exact ((hv k hk).add (Cg.rfl' (x:=(-1)*Ub b (xs k) n))).trans (Cg.of_eq (by omega))) i hi
 obtain ⟨c,hc⟩:=this;exact ⟨c,by rw [<- hc];omega⟩
end Go.Proofs.YtjipleoamlmkfaaGreat
namespace Go.Proofs.YtjipleoamlmkfaaGreat
open Go.RowKit
theorem TO (n:Nat) (hn:n <= 1000000) (w:World) :
  (Instr.makeSlice 41 (.int .i64 0) (.int .i64 n)).run Tryz.prog w= .ok (.slice (some ⟨w.heap.size,0,none⟩) 0 n) (w.alloc (.cells (Xd n fun _=>.slice none 0 0) 28)):=by
 obtain ⟨ht,⟨i,hi,hz,hs,Sq⟩,hzs,Ra⟩:=Jo;have:=run_make (P:=Tryz.prog) w 41 28 i _ ht hi hz .i64 .i64 0 (n:Int) (by omega) (by omega) (by rw [Sq];omega) (by omega)
 rw [Int.toNat_natCast,hs,RI] at this;exact this
theorem RP (n base:Nat) (hn:n <= 1000000) (w:World) (hb:base <= w.heap.size):(w.alloc (.cells (Xd n fun _=>.slice none 0 0) 28)).ownsRow base 28 1 (.slice (some ⟨w.heap.size,0,none⟩) 0 n) 0 [] :=
 World.ownsRow_made w _ n hb (by simp [maxLen];omega) (by simp [Xd])
theorem DO (L:Va) (A0 A1 A2 A3 A4 AM:Option Addr) (n0 n1 n2 n3 n4 nM c0 c1 c2 c3 c4 cM:Nat) (m r:List (List Nat)) (co li qu:List Nat) (w:World) (hL:Vc L)
  (hm:Qd w [.slice AM nM cM] m) (hr:Qd w [.slice A0 n0 c0] r) (hc:RWd w [.slice A1 n1 c1] co) (hl:RWd w [.slice A2 n2 c2] li) (hq:RWd w [.slice A3 n3 c3] qu)
  (hlen:m.length=r.length) (Bh:∀ x∈m,x.length=L.block) (yp:∀ x∈r,x.length <= 2000) (hT:m.length <= 400000) (h1:co.length <= 2000) (h2:li.length <= 2000) (h3:qu.length <= 2000) :
  Calls Tryz.prog 36 #[.agg (Ua L), .slice AM nM cM, .agg #[.slice A0 n0 c0, .slice A1 n1 c1, .slice A2 n2 c2, .slice A3 n3 c3, .slice A4 n4 c4]] w fun e w'=>∃ v,e= .returned v /\ ((∀ q,v.ownBlock=some q -> w.heap.size <= q) /\ ∀ u:World,(∀ b,w.heap.size <= b -> b<w'.heap.size -> u.heap[b]?=w'.heap[b]?) -> Qd u [v] ((List.range L.n).map fun i=>(List.range (m.length+3)).map (CA L (Ow L m r co li qu) i))) /\ Below w.heap.size w w':=by
 have hp:=hL.p;have ie:=nc hp;have xa:=hL.b2;obtain ⟨hmn,-,-,hMd⟩:=sh hm;obtain ⟨mw,-,-,Rc⟩:=sh hr;subst hmn;subst mw;have Wh:=JQ L m r co li qu;have Xj:=zCE (L:=L) (m:=m) (r:=r) (c:=co) (l:=li) (q:=qu) xa yp h1 h2 h3;have OV:=zH (fun A k c l w hl hk=>DF L.p A k c L.n L.n.log2 (Yc L.p).1 l w hp hl (tI hL).1 (tI hL).2 (oN hp) hk)
 have HGen:=zH (fun w=>kH L.p w hp)
 have HCV:=zH (show ∀ ps i,(List.range (m.length+3)).map (CA L ps i)=(List.range (m.length+3)).map (fun j=>Zf L.p L.n L.n.log2 (ps.getD j []) (Yc L.p).1 i) from fun _ _=>rfl)
 have Zz:=zH (fun A B n c m d msg Hi w hl hk hn hm=>PI L A B n c m d msg Hi w hL hl hk hn hm)
 have Xp:=zH (fun w' (hb:Below w.heap.size w w')=>LI L (.slice A0 r.length c0) (.slice A2 n2 c2) (.slice A3 n3 c3) (.slice A4 n4 c4) A1 n1 c1 co w' ⟨_,_,_,rfl⟩ ⟨_,_,_,rfl⟩ ⟨_,_,_,rfl⟩ ⟨_,_,_,rfl⟩ (ib hb hc) (by have:=(zb hc).1;omega))
 have Mu:=zH (fun w' (hb:Below w.heap.size w w')=>NI L (.slice A0 r.length c0) (.slice A1 n1 c1) (.slice A3 n3 c3) (.slice A4 n4 c4) A2 n2 c2 li w' hL ⟨_,_,_,rfl⟩ ⟨_,_,_,rfl⟩ ⟨_,_,_,rfl⟩ ⟨_,_,_,rfl⟩ (ib hb hl) (by have:=(zb hl).1;omega))
 have HQu:=zH (fun w' (hb:Below w.heap.size w w')=>OI L (.slice A0 r.length c0) (.slice A1 n1 c1) (.slice A2 n2 c2) (.slice A4 n4 c4) A3 n3 c3 qu w' hL ⟨_,_,_,rfl⟩ ⟨_,_,_,rfl⟩ ⟨_,_,_,rfl⟩ ⟨_,_,_,rfl⟩ (ib hb hq) (by have:=(zb hq).1;omega))
 have o0:=(zb hc).2.2.2.1;have Xc:=(zb hl).2.2.2.1;have e1:=(zb hc).1;have e2:=(zb hl).1;have e3:=(zb hq).1;have Fb:=zH (And.intro o0 Xc);subst e1 e2 e3;clear o0 Xc hc hl hq hm hr;have Qe:=zH hlen;have Nu:=zH Bh;have Dm:=zH yp;have Lh:=zH ie;have HL:=zH hL;have Od:=hL.n2;have hmin:min (m.length:Int) (r.length:Int)=(m.length:Int):=Int.min_eq_left (by omega)
 obtain ⟨T,zt⟩:=zEX (m.length);obtain ⟨M,wt⟩:=zEX (m.length+3);have x1:(m.length:Int)+3=(M:Int):=by omega
 have x2:=zd M;have x3:(M:Int) <= 400003:=by omega
 have x4:(0:Int) <= (M:Int):=by omega
 have x5:(m.length:Int) <= 400000:=by omega
 have Jv:M <= 400003:=by omega
 have hM1':M <= 1000000:=by omega
 rw [<- wt];have xX:=zH wt;rw [<- wt] at Wh HCV;obtain ⟨ps,fp⟩:=zEX (Ow L m r co li qu);rw [<- fp] at Wh Xj |-;have HPE:=zH (show Nw L m r m.length++[co,Rk L li,NB L qu]=ps from fp.symm)
 have Ri:=zH Wh;have so:=zH Xj;replace HCV:=zH (HCV.out ps);clear fp Wh Xj;obtain ⟨gen,hgen⟩:=zEX ((Yc L.p).1);rw [<- hgen] at OV HGen HCV;clear hgen;have HFF:=zH (show ∀ k q,Zf L.p L.n L.n.log2 (ps.getD q []) gen k<18446744073709551616 from fun k q=>Nat.lt_trans (DM (by have:=Lh.out;omega) _ _ _ _ _) Lh.out.2)
 have mk0:=TO M (by omega)
 have mkC:=TI L.n (by omega)
 have mkM:=Fp M (by omega)
 clear hlen Bh yp ie hL hp wt zt;unfold Ua fv at *;obtain ⟨kl,kc,kf,aa,Ra⟩:=Bl w 68 43 175 #[.int .u64 L.p, .int .i64 L.block, .int .i64 L.queries, .int .i64 L.k, .int .i64 L.n, .int .i64 L.secret, .int .i64 L.rows, .int .i64 L.a, .int .i64 L.b, .int .i64 L.b, .int .i64 L.b] #[.slice A0 r.length c0, .slice A1 co.length c1, .slice A2 li.length c2, .slice A3 qu.length c3, .slice A4 n4 c4] #[.int .u64 L.p];go_enter Tryz.func36,Tryz.ntmps36
 go_upto_region 2 with fail
 generalize ((w.alloc _).alloc _).alloc _=w1 at kl kc kf aa Ra |-;have HZ:=zH Ra;clear Ra;have cc:=kc.cell;go_upto_region 3 with fail
 have ma:=RP M w1.heap.size hM1' w1 zR;have ia:=(Below.refl w1.heap.size w1).alloc zR (.cells (Xd M fun _=>.slice none 0 0) 28)
 have zh:w1.heap.size <= (w1.alloc (.cells (Xd M fun _=>.slice none 0 0) 28)).heap.size:=ia.size
 replace kl:=ea kl ia;replace kc:=ea kc ia;replace kf:=ea kf ia;replace aa:=ja aa ia;clear ia cc mk0;obtain ⟨N,Se⟩:=zEX (w1.heap.size);have xN:w.heap.size+3 <= N:=by rw [Se,HZ.out];omega
 rw [<- Se] at ma zh |-;clear Se HZ;generalize w1.alloc _=w2 at kl kc kf aa ma zh |-;have cc:=kc.cell;go_wp2_with fail
 clear cc;go_loopw [8,31] (fun u y wr=>∃ (i:Nat) (v:Value) (cs:List Value),v=u /\ i <= m.length /\ y= .int .i64 i /\ Blk wr w.heap.size 68 #[.int .u64 L.p, .int .i64 L.block, .int .i64 L.queries, .int .i64 L.k, .int .i64 L.n, .int .i64 L.secret, .int .i64 L.rows, .int .i64 L.a, .int .i64 L.b, .int .i64 L.b, .int .i64 L.b] /\ Blk wr (w.heap.size+1) 43 #[.slice A0 r.length c0, .slice A1 co.length c1, .slice A2 li.length c2, .slice A3 qu.length c3, .slice A4 n4 c4] /\ Blk wr (w.heap.size+1+1) 175 #[.int .u64 L.p] /\ wr.ownsRow N 28 1 v i cs /\ Ag N wr v cs (Nw L m r i) /\ Below w.heap.size w wr /\ N <= wr.heap.size) (fun _ y _=>m.length-(intOf y).toNat)
 case atStart=>exact ⟨0,_,[],rfl,Nat.zero_le _,rfl,kl,kc,kf,ma,ED _ _ _,aa,zh⟩
 case round =>
  clear kl kc kf ma aa zh;obtain ⟨i,v,cs,rfl,hi,rfl,kl,kc,kf,ma,Da,aa,jb⟩:=hrel;by_cases oa:i<m.length
  ·have q1:(0:Int) <= (i:Int):=by omega
   have q2:(i:Int)<(m.length:Int):=by omega
   have q3:(i:Int)<(r.length:Int):=by have:=Qe.out;omega
   obtain ⟨bm,qm,Am,lm,cm,rfl,hbm0,hcm0,hrm0⟩:=Zl hMd oa;have uV:=(aa.cell (p:=⟨bm,qm+i,none⟩) hbm0).trans hcm0;have xr:=ib aa hrm0;have hbm:bm<N:=by omega
   obtain ⟨br,qr,Ar,lr,cr,rfl,hbr0,hcr0,hrr0⟩:=Zl Rc (show i<r.length by have:=Qe.out;omega)
   have Qv:=(aa.cell (p:=⟨br,qr+i,none⟩) hbr0).trans hcr0;have Ol:=ib aa hrr0;have Qa:br<N:=by omega
   have z1:=(zb xr).1;have z2:=(zb Ol).1;have z3:lm=L.block:=by have:=Nu.out _ (List.getElem_mem oa);omega
   have z4:lr <= 2000:=by have:=Dm.out _ (List.getElem_mem (show i<r.length by have:=Qe.out;omega));omega
   have HC:=zH (fun w' (hb:Below wr.heap.size wr w')=>Zz.out Am Ar lm cm lr cr m[i] _ w' (ib hb xr) (ib hb Ol) z3 (by omega))
   have HPR:=zH (show (List.range (L.block+lr)).map (Nn L m[i] (r[i]'(by have:=Qe.out;omega)))=Wx L m r i by
    unfold Wx;rw [List.getD_eq_getElem?_getD,List.getD_eq_getElem?_getD,List.getElem?_eq_getElem oa,List.getElem?_eq_getElem (show i<r.length by have:=Qe.out;omega)]
    simp only [Option.getD_some]
    first | rw [z2] | rw [<- z2])
   have HMX:=zH (show ∀ k,Nn L m[i] (r[i]'(by have:=Qe.out;omega)) k<18446744073709551616 from fun k=>Nat.lt_trans (WI (by have:=Lh.out;omega) _ _ _) Lh.out.2)
   have HNX:=zH (IQ L m r i);revert HC HPR HMX
   generalize Nn L m[i] (r[i]'(by have:=Qe.out;omega))=PF
   intro HC HPR HMX;clear z1 z2 z3 xr Ol hrm0 hrr0 hcm0 hcr0;have n1:w.heap.size<N:=by omega
   have n2:w.heap.size+1<N:=by omega
   have cl:=kl.cell;have ll:=kl.lt;have cc:=kc.cell;have lc:=kc.lt;go_upto_region 6 with fail
   refine Pc (Tp N) [11,12,13] [0,1,2,3,4,5,6,7,8,9,10,11,12,13,14] (by kernel_rfl) (by kernel_rfl) ?_
   refine di (Ad N) ?_;intro Wc Ba da;refine iS ?_;have Ja:=Sg Ba;have Ob:=Ja.size;have hNw0:=jb;refine oc (Ad N) rfl rfl rfl (fun _=>by go_simp <;> rfl) ((HC.out _ Ja).mono ?_)
   rintro e w3 ⟨g',rfl,Yv,Hr,Ga⟩;refine ⟨_,rfl,Mo Ga (Nat.le_trans hNw0 Ob),?_⟩;replace da:=(Ad N).trans _ _ _ da (Mo Ga (Nat.le_trans hNw0 Ob));simp only [Act.put,zLa,zLb,zLc];have Pa:=ja Ja Ga;have hNg:N <= g':=by omega
   have hvg:some g'≠v.ownBlock:=fun e=>by have:=(ma.lt _ e.symm).2;omega
   replace kl:=ea kl Pa;replace kc:=ea kc Pa;replace kf:=ea kf Pa;replace ma:=db ma Pa zR;replace Da:=Nf Da Pa;replace aa:=ja aa Pa;replace jb:=Nat.le_trans jb Pa.size;have hNd:=Nat.le_trans Ob Ga.size;have zr:df N v.ownBlock w3 (.slice (some ⟨g',0,none⟩) (L.block+lr) (L.block+lr)) (Wx L m r i):=by
    rw [<- HPR.out];exact SB Hr (fun k _=>HMX.out k) (by simp [maxLen];omega) hNg hvg
   have HNd:=zH (And.intro hNd (show wr.heap.size <= w3.heap.size from Pa.size))
   clear Hr Ga Pa hNg hvg Yv Ob Ja HC Ba da cl ll cc lc hNd;have da:=(Ad N).refl w3;refine iS ?_;refine de (Ad N) rfl rfl rfl ?_;go_simp;refine ⟨Mo ((Below.refl _ _).alloc zR _) jb,?_⟩;have ia:=(Below.refl w3.heap.size w3).alloc zR (.cells #[.slice (some ⟨g',0,none⟩) (L.block+lr) (L.block+lr)] 28);have za:=Uk w3 (.slice (some ⟨g',0,none⟩) (L.block+lr) (L.block+lr)) 28;replace zr:=Lp zr ia.size (fun b _ h2 _=>ia.block b h2)
   replace kl:=ea kl ia;replace kc:=ea kc ia;replace kf:=ea kf ia;replace ma:=db ma ia zR;replace Da:=Nf Da ia;replace aa:=ja aa ia;replace jb:=Nat.le_trans jb ia.size;have HNe:=zH (Nat.le_trans HNd.out.2 ia.size)
   try simp only [Act.put,zLa,zLb,zLc]
   generalize w3.alloc _=w4 at kl kc kf ma Da zr aa za jb HNe |-;generalize w3.heap.size=g7 at za |-;clear ia HNd da;have da:=(Ad N).refl w4;refine iS ?_;refine de (Ad N) rfl rfl rfl ?_;refine om _ _ rfl Jo rfl ma rfl za (by intro u hu;simp at hu;subst hu;rfl) (by omega) jb ?_
   intro v' wn Ta Ha Ab;have Vb:∀ q,v.ownBlock=some q -> N <= q:=fun q e=>(ma.lt q e).1
   have Iv:=mh ma Ha jb;refine ⟨Iv,?_⟩;have Vh:=WZ Da zr Ha Ab;rw [HNX.out] at Vh;replace kl:=kl.grown Ha (fun e=>by have:=Vb _ e.symm;omega)
   replace kc:=kc.grown Ha (fun e=>by have:=Vb _ e.symm;omega)
   replace kf:=kf.grown Ha (fun e=>by have:=Vb _ e.symm;omega)
   replace aa:=aa.trans (Iv.mono (by omega))
   have Ud:N <= wn.heap.size:=by have:=Ha.size;omega
   clear ma Da zr Ha Ab Vb za da Iv HNe jb;have da:=(Ad N).refl wn
   try simp only [Act.put,zLa,zLb,zLc]
   refine iS ?_;refine pc ?_;go_wp2
   go_roundw
   case rel=>exact ⟨i+1,v',_,rfl,by omega,by go_num,kl,kc,kf,Ta,Vh,aa,Ud⟩
   case measure=>simp [intOf];omega
  ·obtain rfl:i=m.length:=by omega
   have g2:¬((m.length:Int)<(m.length:Int)):=by omega
   clear hMd Rc Zz;have cl:=kl.cell;have cc:=kc.cell;have n1:w.heap.size<N:=by omega
   have n2:w.heap.size+1<N:=by omega
   go_upto_region 8 with fail
   refine Pc (Tp N) [3,6,9,10,11] [0,1,2,4,5,7,8,3,6,9,10,11,12] (by kernel_rfl) (by kernel_rfl) ?_
   refine di (Ad N) ?_;intro Wc Ba da;refine iS ?_;have Ja:=Sg Ba;replace kl:=ea kl Ja;replace kc:=ea kc Ja;replace kf:=ea kf Ja;replace ma:=db ma Ja zR;replace Da:=Nf Da Ja;replace aa:=ja aa Ja;replace jb:=Nat.le_trans jb Ja.size;clear Ja Ba cl cc;refine oc (Ad N) rfl rfl rfl (fun _=>by go_simp <;> rfl) ((Xp.out _ aa).mono ?_)
   rintro e w3 ⟨v1,rfl,o1,Ga⟩;refine ⟨_,rfl,Mo Ga jb,?_⟩;replace da:=(Ad N).trans _ _ _ da (Mo Ga jb);simp only [Act.put,zLa,zLb,zLc];have mf:∀ q,v.ownBlock=some q -> q<Wc.heap.size:=fun q e=>(ma.lt q e).2
   have Ec:df N v.ownBlock w3 v1 co:=TB o1 Fb.out.1 jb mf;obtain ⟨A1',Ph,rfl,-⟩:=Tb o1;replace kl:=ea kl Ga;replace kc:=ea kc Ga;replace kf:=ea kf Ga;replace ma:=db ma Ga zR;replace Da:=Nf Da Ga;replace aa:=ja aa Ga;replace jb:=Nat.le_trans jb Ga.size;clear Ga o1 da mf;have da:=(Ad N).refl w3;refine oc (Ad N) rfl rfl rfl (fun _=>by go_simp <;> rfl) ((Mu.out _ aa).mono ?_)
   rintro e w4 ⟨v2,rfl,o2,Pa⟩;refine ⟨_,rfl,Mo Pa jb,?_⟩;replace da:=(Ad N).trans _ _ _ da (Mo Pa jb);simp only [Act.put,zLa,zLb,zLc];have Js:∀ q,v.ownBlock=some q -> q<w3.heap.size:=fun q e=>(ma.lt q e).2
   have lh:df N v.ownBlock w4 v2 (Rk L li):=TB o2 (by
    have hp:=Lh.out;intro x hx;rcases List.mem_cons.1 hx with rfl | hx
    ·exact Nat.lt_trans (GI (by omega) _ _) hp.2
    ·exact Fb.out.2 x hx) jb Js
   obtain ⟨A2',Pm,rfl,-⟩:=Tb o2;replace Ec:=Lp Ec Pa.size (fun b _ h2 _=>Pa.block b h2)
   replace kl:=ea kl Pa;replace kc:=ea kc Pa;replace kf:=ea kf Pa;replace ma:=db ma Pa zR;replace Da:=Nf Da Pa;replace aa:=ja aa Pa;replace jb:=Nat.le_trans jb Pa.size;clear Pa o2 da Js;have da:=(Ad N).refl w4;refine oc (Ad N) rfl rfl rfl (fun _=>by go_simp <;> rfl) ((HQu.out _ aa).mono ?_)
   rintro e w5 ⟨g3,rfl,Ge,k3,Ma⟩;refine ⟨_,rfl,Mo Ma jb,?_⟩;replace da:=(Ad N).trans _ _ _ da (Mo Ma jb);simp only [Act.put,zLa,zLb,zLc];have Br:some g3≠v.ownBlock:=fun e=>by have:=(ma.lt _ e.symm).2;omega
   have ZX:df N v.ownBlock w5 (.slice (some ⟨g3,0,none⟩) (L.block+qu.length) (L.block+qu.length)) (NB L qu) :=
    SB k3 (fun k _=>Nat.lt_trans (dC (by have:=Lh.out;omega) _ _ _) Lh.out.2) (by simp [maxLen];omega) (by omega) Br
   replace Ec:=Lp Ec Ma.size (fun b _ h2 _=>Ma.block b h2)
   replace lh:=Lp lh Ma.size (fun b _ h2 _=>Ma.block b h2)
   replace kl:=ea kl Ma;replace kc:=ea kc Ma;replace kf:=ea kf Ma;replace ma:=db ma Ma zR;replace Da:=Nf Da Ma;replace aa:=ja aa Ma;replace jb:=Nat.le_trans jb Ma.size;clear Ma k3 Ge da Br Xp Mu HQu kc;have da:=(Ad N).refl w5;refine de (Ad N) rfl rfl rfl ?_;go_simp;refine ⟨Mo ((Below.refl _ _).alloc zR _) jb,?_⟩;have ia:=(Below.refl w5.heap.size w5).alloc zR (.cells #[.slice A1' co.length Ph, .slice A2' (li.length+1) Pm, .slice (some ⟨g3,0,none⟩) (L.block+qu.length) (L.block+qu.length)] 28);have za:=LR w5 (.slice A1' co.length Ph) (.slice A2' (li.length+1) Pm) (.slice (some ⟨g3,0,none⟩) (L.block+qu.length) (L.block+qu.length)) 28;replace Ec:=Lp Ec ia.size (fun b _ h2 _=>ia.block b h2)
   replace lh:=Lp lh ia.size (fun b _ h2 _=>ia.block b h2)
   replace ZX:=Lp ZX ia.size (fun b _ h2 _=>ia.block b h2)
   replace kl:=ea kl ia;replace kf:=ea kf ia;replace ma:=db ma ia zR;replace Da:=Nf Da ia;replace aa:=ja aa ia;replace jb:=Nat.le_trans jb ia.size
   try simp only [Act.put,zLa,zLb,zLc]
   generalize w5.alloc _=w6 at kl kf ma Da Ec lh ZX aa za jb |-;generalize w5.heap.size=g7 at za |-;clear ia da;have da:=(Ad N).refl w6;refine iS ?_;refine de (Ad N) rfl rfl rfl ?_;refine om _ _ rfl Jo rfl ma rfl za (by intro u hu;simp at hu;rcases hu with rfl | rfl | rfl <;> rfl) (by omega) jb ?_
   intro v' wn Ta Ha Ab;have Vb:∀ q,v.ownBlock=some q -> N <= q:=fun q e=>(ma.lt q e).1
   have Iv:=mh ma Ha jb;refine ⟨Iv,?_⟩;have Vh:=sN Da Ec lh ZX Ha Ab;replace kl:=kl.grown Ha (fun e=>by have:=Vb _ e.symm;omega)
   replace kf:=kf.grown Ha (fun e=>by have:=Vb _ e.symm;omega)
   replace aa:=aa.trans (Iv.mono (by omega))
   have WH:=DD Vh Ta;clear ma Da Ec lh ZX Ha Ab Vb za da Iv jb Vh;have da:=(Ad N).refl wn
   try simp only [Act.put,zLa,zLb,zLc]
   refine iS ?_;refine pc ?_;rw [HPE.out] at WH;rw [<- xX.out] at Ta;obtain ⟨Ap,cp,rfl,XV,-⟩:=Tb Ta;clear Ta da HPE xX Qe Nu Dm Fb;obtain ⟨-,-,uV,hPd⟩:=sh WH;obtain ⟨gC,hgC⟩:=zEX (wn.heap.size);have y0:w.heap.size+3 <= gC:=by rw [hgC];have:=aa.size;have:=kf.lt;omega
   have lM:M <= maxLen:=by simp [maxLen];omega
   have hmaxn:max (0:Int) (L.n:Int)=(L.n:Int):=Int.max_eq_right (by omega)
   have xn:(L.n:Int) <= 1024:=by omega
   have cl:=kl.cell;go_upto_region 10 with fail
   have kC:=Blk.new wn 28 (Xd L.n fun _=>.slice none 0 0)
   have ia:=(Below.refl wn.heap.size wn).alloc zR (.cells (Xd L.n fun _=>.slice none 0 0) 28)
   have hs7:(wn.alloc (.cells (Xd L.n fun _=>.slice none 0 0) 28)).heap.size=gC+1:=by rw [hgC];simp
   rw [<- hgC] at kC ia |-;clear cl mkC;generalize wn.alloc _=w7 at kC ia hs7 |-;rw [sD (g:=fun k=>if k<0 then Ng M (gC+1+k) else .slice none 0 0) (fun k _=>by simp)] at kC
   have HGC:=zH hgC;have HS7:=zH hs7;clear hgC hs7;go_wp2_with fail
   go_loopw [67] (fun y wr=>∃ i:Nat,i <= L.n /\ y= .int .i64 i /\ Blk wr gC 28 (Xd L.n fun k=>if k<i then Ng M (gC+1+k) else .slice none 0 0) /\ Hid (∀ k,k<i -> Blk wr (gC+1+k) 22 (Fa M fun _=>0)) /\ Hid (wr.heap.size=gC+1+i) /\ Below gC wn wr) (fun y _=>L.n-(intOf y).toNat)
   case atStart=>exact ⟨0,Nat.zero_le _,rfl,kC,fun k h=>by omega,HS7.out,ia⟩
   case round =>
    clear kC ia HS7;obtain ⟨i,hi,rfl,kC,HK,HSZ,Ue⟩:=hrel;by_cases oa:i<L.n
    ·have q1:(0:Int) <= (i:Int):=by omega
     have q2:(i:Int)<(L.n:Int):=by omega
     have cC:=kC.cell i;rw [rD _ oa,if_neg (Nat.lt_irrefl i)] at cC;have lC:=kC.lt;have fC:=kC.frozen;go_wp2_with fail
     have Uj:=HSZ.out;rw [Uj];have hg:=Pg (w:=wr) gC i (Ng M (gC+1+i));replace kC:=kC.set_ i (Ng M (gC+1+i));rw [TM,sD (g:=fun k=>if k<i+1 then Ng M (gC+1+k) else .slice none 0 0) (fun k _=>by
      by_cases e:k=i
      ·subst e;simp
      ·rw [if_neg e]
       by_cases e2:k<i
       ·rw [if_pos e2,if_pos (by omega)]
       ·rw [if_neg e2,if_neg (by omega)])] at kC
     have jl:Hid (∀ k,k<i -> Blk (wr.setCell ⟨gC,i,none⟩ (Ng M (gC+1+i))) (gC+1+k) 22 (Fa M fun _=>0)):=fun k h=>(HK.out k h).grown hg (fun e=>by have:=Option.some.inj e;omega)
     have eE:(wr.setCell ⟨gC,i,none⟩ (Ng M (gC+1+i))).heap.size=gC+1+i:=by simp [World.setCell];exact Uj
     replace Ue:=Ue.trans (Nh hg (by have:=Ue.size;have:=HGC.out;omega) zR)
     clear hg HK Uj HSZ cC fC lC;generalize wr.setCell _ _=w8 at kC jl eE Ue |-;have ia:=(Below.refl w8.heap.size w8).alloc zR (.cells (Fa M fun _=>0) 22)
     have kN:=Blk.new w8 22 (Fa M fun _=>0)
     have HSN:=zH (show (w8.alloc (.cells (Fa M fun _=>0) 22)).heap.size=gC+1+(i+1) by simp;omega)
     rw [eE] at kN;replace kC:=ea kC ia;have HK3:Hid (∀ k,k<i+1 -> Blk (w8.alloc (.cells (Fa M fun _=>0) 22)) (gC+1+k) 22 (Fa M fun _=>0)):=fun k h=>by
      by_cases e:k=i
      ·subst e;exact kN
      ·exact (jl.out k (by omega)).below ia (jl.out k (by omega)).lt
     replace Ue:=Ue.trans (ia.mono (by omega))
     clear ia kN jl eE;generalize w8.alloc _=w9 at kC HK3 HSN Ue |-
     go_roundw
     case rel=>exact ⟨i+1,by omega,by go_num,kC,HK3,HSN,Ue⟩
     case measure=>simp [intOf];omega
    ·obtain rfl:i=L.n:=by omega
     rw [sD (g:=fun k=>Ng M (gC+1+k)) (fun k hk=>if_pos hk)] at kC
     have hs9:gC+1+L.n <= wr.heap.size:=by rw [HSZ.out];omega
     have jl:Hid (∀ k,k<L.n -> Blk wr (gC+1+k) 22 (Fa M fun q=>if q<0 then Zf L.p L.n L.n.log2 (ps.getD q []) gen k else 0)):=fun k h=>by
      have:=HK.out k h;rw [ui (g:=fun q=>if q<0 then Zf L.p L.n L.n.log2 (ps.getD q []) gen k else 0) (fun q _=>by simp)] at this
      exact this
     clear HK HSZ mkM;go_wp2_with fail
     go_loopw [79] (fun y wr=>∃ j:Nat,j <= M /\ y= .int .i64 j /\ Blk wr gC 28 (Xd L.n fun k=>Ng M (gC+1+k)) /\ Hid (∀ k,k<L.n -> Blk wr (gC+1+k) 22 (Fa M fun q=>if q<j then Zf L.p L.n L.n.log2 (ps.getD q []) gen k else 0)) /\ gC+1+L.n <= wr.heap.size /\ Below gC wn wr) (fun y _=>M-(intOf y).toNat)
     case atStart=>exact ⟨0,Nat.zero_le _,rfl,kC,jl,hs9,Ue⟩
     case round =>
      clear kC jl hs9 Ue;obtain ⟨j,hj,rfl,kC,HK,Ra,Ue⟩:=hrel;by_cases oa:j<M
      ·have q1:(0:Int) <= (j:Int):=by omega
       have q2:(j:Int)<(M:Int):=by omega
       obtain ⟨bp,qp,Aj,lj,cj,rfl,hbp,hcp',hrp⟩:=Zl hPd (show j<ps.length by rw [Ri.out];exact oa)
       have hbp2:bp<gC:=by rw [HGC.out];exact hbp
       have Et:=(Ue.cell (p:=⟨bp,qp+j,none⟩) hbp2).trans hcp';have hbn2:Below wn.heap.size wn wr:=by rw [<- HGC.out];exact Ue
       have hrj:=ib hbn2 hrp;have hgd:ps[j]'(by rw [Ri.out];exact oa)=ps.getD j []:=by rw [List.getD_eq_getElem?_getD,List.getElem?_eq_getElem];rfl
       have Pt:lj <= 8192:=by have h1:=so.out _ (List.getElem_mem (show j<ps.length by rw [Ri.out];exact oa));have h2:=(zb hrp).1;omega
       rw [hgd] at hrj;have HE:=zH (fun w' (hb:Below wr.heap.size wr w')=>OV.out Aj lj cj (ps.getD j []) w' (ib hb hrj) Pt)
       have Cp:=kl.below Ue (show w.heap.size<gC by omega)
       have Gr:=kf.below Ue (show w.heap.size+1+1<gC by omega)
       have cl:=Cp.cell;have ll:=Cp.lt;have cf:=Gr.cell;have lf:=Gr.lt;clear hcp' hrp hrj hgd hbn2;have hbpw:bp<wr.heap.size:=by omega
       go_upto_region 18 with fail
       refine Pc (Bb) [3,6] [0,1,2,4,5,3,6,7,8,9,10,11] (by kernel_rfl) (by kernel_rfl) ?_
       refine di (pa) ?_;intro Wc Ba da;refine Kb ?_;have Ja:=Sg Ba;refine oc (pa) rfl rfl rfl (fun _=>by go_simp <;> rfl) ((HGen.out _).mono ?_)
       rintro e w3 ⟨rfl,Ga⟩;refine ⟨_,rfl,Ga,?_⟩;replace da:=(pa).trans _ _ _ da (Ga);simp only [Act.put,zLa,zLb,zLc];have Pa:=ja Ja Ga;refine Kb ?_;refine oc (pa) rfl rfl rfl (fun _=>by go_simp <;> rfl) ((HE.out _ Pa).mono ?_)
       rintro e w5 ⟨gv,rfl,XW,kv,Ma⟩;refine ⟨_,rfl,Ma,?_⟩;replace da:=(pa).trans _ _ _ da (Ma);simp only [Act.put,zLa,zLb,zLc];have Cc:=ja Pa Ma;have hgv2:wr.heap.size <= gv:=Nat.le_trans Pa.size XW;replace kC:=ea kC Cc;have jl:Hid (∀ k,k<L.n -> Blk w5 (gC+1+k) 22 (Fa M fun q=>if q<j \/ (q=j /\ k<0) then Zf L.p L.n L.n.log2 (ps.getD q []) gen k else 0)):=fun k h=>by
        have:=(HK.out k h).below Cc (HK.out k h).lt;rw [ui (g:=fun q=>if q<j \/ (q=j /\ k<0) then Zf L.p L.n L.n.log2 (ps.getD q []) gen k else 0) (fun q _=>by simp)] at this
        exact this
       have hbn3:=Ue.trans (Cc.mono (by omega))
       have hsz2:=Nat.le_trans Ra Cc.size;have hgv3:gC+1+L.n <= gv:=by omega
       clear Ja Ga Pa Ma Cc Ba da HK Ue Ra cl ll cf lf Cp Gr HE Et XW;refine Kb ?_;refine pc ?_;obtain ⟨V,hV⟩:∃ V:Nat -> Nat -> Nat,V=fun q k=>Zf L.p L.n L.n.log2 (ps.getD q []) gen k:=⟨_,rfl⟩
       have HV:=zH hV;rw [show Zf L.p L.n L.n.log2 (ps.getD j []) gen=V j by rw [hV]] at kv
       replace jl:Hid (∀ k,k<L.n -> Blk w5 (gC+1+k) 22 (Fa M fun q=>if q<j \/ (q=j /\ k<0) then V q k else 0)):=by rw [hV];exact jl
       clear hV;go_wp2_with fail
       go_loopw [96] (fun y wr=>∃ i:Nat,i <= L.n /\ y= .int .i64 i /\ Blk wr gC 28 (Xd L.n fun k=>Ng M (gC+1+k)) /\ Hid (∀ k,k<L.n -> Blk wr (gC+1+k) 22 (Fa M fun q=>if q<j \/ (q=j /\ k<i) then V q k else 0)) /\ gC+1+L.n <= wr.heap.size /\ Below gC wn wr /\ Blk wr gv 22 (Fa L.n (V j))) (fun y _=>L.n-(intOf y).toNat)
       case atStart=>exact ⟨0,Nat.zero_le _,rfl,kC,jl,hsz2,hbn3,kv⟩
       case round =>
        clear kC jl hsz2 hbn3 kv;obtain ⟨i,hi,rfl,kC,HK,Ra,Ue,kv⟩:=hrel;by_cases ar:i<L.n
        ·have p1:(0:Int) <= (i:Int):=by omega
         have p2:(i:Int)<(L.n:Int):=by omega
         obtain ⟨x,hx⟩:=zEX (V j i);have cv:=kv.cell i;rw [Fe _ ar,<- hx] at cv;have lv:=kv.lt;have cC:=kC.cell i;rw [rD _ ar] at cC;have lC:=kC.lt;obtain ⟨gi,Uj⟩:=zEX (gC+1+i);have kI:Blk wr gi 22 (Fa M fun q=>if q<j \/ (q=j /\ i<i) then V q i else 0):=by rw [Uj];exact HK.out i ar
         have cI:=kI.cell j;rw [Fe _ oa] at cI;generalize (if j<j \/ (j=j /\ i<i) then V j i else 0)=old at cI
         have lI:=kI.lt;have fI:=kI.frozen;rw [<- Uj] at cC;have ngC:gi≠gC:=by omega
         have ngv:gi≠gv:=by omega
         dsimp only [Ng] at cC
         have HGI:=zH Uj;have qi:=zH hx;clear Uj hx;go_wp2_with fail
         have hg:=Pg (w:=wr) gi j (.int .u64 x);have hK2:Hid (∀ k,k<L.n -> Blk (wr.setCell ⟨gi,j,none⟩ (.int .u64 x)) (gC+1+k) 22 (Fa M fun q=>if q<j \/ (q=j /\ k<i+1) then V q k else 0)):=fun k h=>by
          by_cases e:k=i
          ·subst e
           have h2:=kI.set_ j (.int .u64 x);rw [Tm] at h2;rw [<- HGI.out];rw [ui (g:=fun q=>if q<j \/ (q=j /\ k<k+1) then V q k else 0) (fun q _=>by
            simp only [Pe];by_cases e:q=j
            ·subst e;rw [if_pos rfl,if_pos (by omega),qi.out]
            ·rw [if_neg e]
             by_cases e2:q<j
             ·rw [if_pos (.inl e2),if_pos (.inl e2)]
             ·rw [if_neg (by omega),if_neg (by omega)])] at h2
           exact h2
          ·have h2:=(HK.out k h).grown hg (fun e2=>by have:=Option.some.inj e2;have:=HGI.out;omega)
           rw [ui (g:=fun q=>if q<j \/ (q=j /\ k<i+1) then V q k else 0) (fun q _=>by
            by_cases e2:q<j \/ (q=j /\ k<i)
            ·rw [if_pos e2,if_pos (by omega)]
            ·rw [if_neg e2,if_neg (by omega)])] at h2
           exact h2
         replace kC:=kC.grown hg (fun e=>ngC (Option.some.inj e).symm)
         replace kv:=kv.grown hg (fun e=>ngv (Option.some.inj e).symm)
         replace Ra:=Nat.le_trans Ra hg.size;replace Ue:=Ue.trans (Nh hg (by have:=Ue.size;have:=HGC.out;omega) (by have:=HGI.out;omega))
         clear hg HK kI cI cC cv lI fI lC lv qi
         go_roundw
         case rel=>exact ⟨i+1,by omega,by go_num,kC,hK2,Ra,Ue,kv⟩
         case measure=>simp [intOf];omega
        ·obtain rfl:i=L.n:=by omega
         have HK3:Hid (∀ k,k<L.n -> Blk wr (gC+1+k) 22 (Fa M fun q=>if q<j+1 then Zf L.p L.n L.n.log2 (ps.getD q []) gen k else 0)):=fun k h=>by
          have h2:=HK.out k h;rw [ui (g:=fun q=>if q<j+1 then Zf L.p L.n L.n.log2 (ps.getD q []) gen k else 0) (fun q _=>by
           rw [HV.out];by_cases e2:q<j+1
           ·rw [if_pos e2,if_pos (by omega)]
           ·rw [if_neg e2,if_neg (by omega)])] at h2
          exact h2
         clear HK kv;go_wp2
         go_roundw
         case rel=>exact ⟨j+1,by omega,by go_num,kC,HK3,Ra,Ue⟩
         case measure=>simp [intOf];omega
      ·obtain rfl:j=M:=by omega
       go_wp2;go_ret
       have Wo:w.heap.size <= gC:=by have:=HGC.out;have:=aa.size;omega
       refine ⟨_,rfl,⟨fun q e=>by have e':gC=q:=Option.some.inj e;omega,fun u hu=>?_⟩,aa.trans (Ue.mono (by omega))⟩
       rw [show (fun i=>(List.range j).map (CA L ps i))=fun i=>(List.range j).map fun q=>Zf L.p L.n L.n.log2 (ps.getD q []) gen i from funext fun i=>HCV.out i]
       have kCu:Blk u gC 28 _:=(hu gC Wo kC.lt).trans kC;refine mN (N:=gC+1) (gb:=none) (cs:=Xd L.n fun k=>Ng j (gC+1+k)) (fun k hk=>⟨_,rD _ hk,?_⟩) kCu (by simp [maxLen];omega)
       have h2:=HK.out k hk;rw [ui (g:=fun q=>Zf L.p L.n L.n.log2 (ps.getD q []) gen k) (fun q hq=>if_pos hq)] at h2
       have h3:Blk u (gC+1+k) 22 _:=(hu (gC+1+k) (by omega) h2.lt).trans h2
       exact SB h3 (fun q _=>HFF.out k q) lM (by omega) (fun e=>by cases e)
end Go.Proofs.YtjipleoamlmkfaaGreat
