/- Lemmas for VerifyStatus. -/
import Derived.Test.YtjfaogajmoffoaaGreatDoorQBT
import Derived.Lib.AppendZeros
set_option maxRecDepth 100000
set_option maxHeartbeats 16000000
set_option linter.all false
namespace Go.Proofs.YtjfaogajmoffoaaGreatDoor
open Go.RowKit Tryz
def gC.sl{W:aB}{v:Value}{l:aM}(h:gC W v l):bX W v 1 (iV l):=by
 obtain⟨a,c,rfl,f,d⟩:=h;by_cases b:l=[]
 .subst b
  exact⟨a,c,rfl,by simp[iV],fun j i=>by simp[iV]at i⟩
 .obtain⟨g,o,rfl,e⟩:=d.resolve_left b
  exact e.sl _ _ rfl f
def aZ.base{W:aB}{b d:Nat}{v:Value}{l:aM}(h:aZ W b v l)(m:d<=b):aZ W d v l:=by
 obtain⟨j,k⟩:=h;refine⟨j,k.imp id ?_⟩;rintro⟨g,a,c,e,f,i⟩;exact⟨g,a,c,e,eu m f,i⟩
def jv(a:Nat->aM)(k:Nat):aM:=(List.range k).flatMap a
def Jh(a:Nat->aM)(k:Nat):jv a (k+1)=jv a k++a k:=by
 unfold jv;rw[wI,pG];simp
def MI(a:Nat->aM)(k:Nat):∀n,k<=n->(jv a k).length<=(jv a n).length
 |0,h=>by rw[Nat.le_zero.1 h];exact aU _
 |n+1,h=>by
  by_cases e:k=n+1
  .rw[e];exact aU _
  .have:=MI a k n (by omega)
   rw[Jh,bV];omega
def ab'(w:aB)(n:Nat)(b:0<n)(c:n<=1000000):aZ (w.drew.alloc (.cells (Builtin.zeroCells #[.int .u8 0] n++Builtin.zeroCells #[.int .u8 0] (grownCap w n 0 5 -n)) 5)) w.heap.size (aR (w.heap.size) 0 0 (grownCap w n 0 5)) []:=by
 have a:=A' w n 0 5;refine⟨by simp,.inr ⟨w.heap.size,grownCap w n 0 5,_,rfl,aU _,cM w.drew _,bW _,grownCap_le_maxLen w n 0 _ (by unfold maxLen;omega),?_,by simp⟩⟩;rw[Array.size_append,size_zeroCells,size_zeroCells];show n*1+(grownCap w n 0 5 -n)*1=_;omega
def aac(n:Nat)(d:0<n)(m:n<=1000000)(w:aB):Calls prog 150 #[.slice none 0 0,.int .i64 (n:Int)] w fun e w'=>∃v,e=.returned v/\aZ w' w.heap.size v []/\Gr w w':=by
 obtain⟨i,hi,a⟩:=o4.1 AE;simp only[rk]at a;obtain⟨j,o,f⟩:=a;have h:=Lib.run_append_nil_zeros (P:=prog) w 94 3 94 5 i (.int .u8 0) .i64 .i64 underlying94 underlying3 hi j n d (by omega) (by omega) (by rw[f];omega);have c:=aA h;have l:=aA (ab' w n d m);have k:Hid (Gr w (w.drew.alloc (.cells (Builtin.zeroCells #[.int .u8 0] n++Builtin.zeroCells #[.int .u8 0] (grownCap w n 0 5 -n)) 5))):=(Gr.refl w).drew.alloc _
 have r:¬(n:Int)<0:=by omega
 have g:=A' w n 0 5;have b:Hid ((Builtin.append_ #[94,3] 94 #[.slice none 0 0,.int .i64 (n:Int)]).run prog w=.ok (aR (w.heap.size) 0 n (grownCap w n 0 5)) (w.drew.alloc (.cells (Builtin.zeroCells #[.int .u8 0] n++Builtin.zeroCells #[.int .u8 0] (grownCap w n 0 5 -n)) 5))):=c;generalize w.drew.alloc (.cells (Builtin.zeroCells #[.int .u8 0] n++Builtin.zeroCells #[.int .u8 0] (grownCap w n 0 5 -n)) 5)=p at*
 generalize grownCap w n 0 5 =q at*
 go_in;go_wp2_with (at_builtin;refine Lib.wpList_append_run _ rfl _ _ _ _ rfl _ _ rfl rfl _ _ b ?_);go_ret;exact⟨_,rfl,l,k⟩
def M7(g N c:Nat)(J:Nat->Value)(b:Nat->aM)(w:aB)(h0:0<(jv b N).length)(h9:(jv b N).length<=900000)(hN:N<=1000)(W:g<w.heap.size)
  (Y:∀j,j<N->w.cell? (aD g j)=some (J j)/\gC w (J j) (b j)):
  Calls prog 103 #[aR g 0 N c] w fun e w'=>∃v,e=.returned v/\aZ w' w.heap.size v (jv b N)/\Gr w w':=by
 have V:=aA Y;have F:Hid (∀k,k<=N->(jv b k).length<=(jv b N).length):=fun k I=>MI b k N I;have n:=aA (Jh b);have U:=aA h0;have K:=aA h9;have a1:N<=N:=aU _;clear Y;go_in;go_wp2_with fail
 go_loopw [3,11] (fun s i wr=>∃k:Nat,k<=N/\i=.int .i64 (k:Int)/\s=.int .i64 ((jv b k).length:Int)/\Hid (Gr w wr)) (fun _ i _=>N-(intOf i).toNat)
 .exact⟨0,bW _,rfl,rfl,Gr.refl w⟩
 .
  obtain⟨k,I,rfl,rfl,h⟩:=hrel;have m:=F k I;obtain⟨q,u⟩:=ex ((jv b k).length);rw[u]at m|-
  by_cases f:k<N
  .have P:(k:Int)<(N:Int):=by omega
   have Q:=nn k
   obtain⟨o,H⟩:=V.out k f;replace o:=(h.cell (p:=⟨g,k,none⟩) W).trans o;obtain⟨a,d,D,hd,-⟩:=H;rw[D]at o;have B:=n k;have x:=F (k+1) f;have C:(jv b (k+1)).length=q+(b k).length:=by rw[B,bV,u]
   obtain⟨r,hr⟩:=ex ((b k).length);rw[hr]at o C hd;have e1:IntKind.i64.wrap ((q:Int)+(r:Int))=((q+r:Nat):Int):=by rw[cV];omega
   have e3:¬((q:Int)+(r:Int)<0):=by omega
   go_wp2_with fail;go_roundw
   .exact⟨k+1,by omega,by go_num,by rw[C];simp,h⟩
   .simp[intOf];omega
  .have t:k=N:=by omega
   rw[<-u,t];have l:=aA (aac (jv b N).length U (by have:=K.out;omega) wr);obtain⟨T,M⟩:=ex ((jv b N).length);rw[M]at l U K F|-
   have HT:=aA M;go_wp2_with (go_at_call 150;refine l.mono ?_;rintro e w1 ⟨v0,rfl,X,z⟩);have Z:=aA (X.base h.size);have L:=aA (h.trans z);go_wp2_with fail
   go_loopw [6,27] (fun s i wr=>∃k:Nat,k<=N/\i=.int .i64 (k:Int)/\Hid (aZ wr w.heap.size s (jv b k))/\Hid (Gr w wr)) (fun _ i _=>N-(intOf i).toNat)
   .exact⟨0,bW _,rfl,Z,L⟩
   .
    obtain⟨k,I,rfl,G,h⟩:=hrel;by_cases f:k<N
    .have P:(k:Int)<(N:Int):=by omega
     have Q:=nn k
     obtain⟨o,H⟩:=V.out k f;have y:=aA ((H.gr h).sl);have c5:wr.cell? (aD g k)=some (J k):=(h.cell W).trans o;obtain⟨v,E⟩:=ex (J k);rw[E]at c5 y;have x:=F (k+1) f;rw[n.out k,bV]at x;have a2:=K.out;obtain⟨a6,c6,rfl⟩:=G.out.shape;have S:w.heap.size<=wr.heap.size:=h.size
     go_wp2_with (at_builtin;refine uo _ rfl _ _ rfl w.heap.size (.slice a6 (jv b k).length c6) (jv b k) (by simp[Act.eval]) G v (b k) (by simp[Act.eval]) y ((jv b k).length+(b k).length) rfl (by omega) S ?_;intro a3 n3 w3 R O);go_roundw
     .exact⟨k+1,by omega,by go_num,by show Hid _;rw[n.out k];exact R,h.grown O (fun q u=>(fA G q u).1)⟩
     .simp[intOf];omega
    .have t:k=N:=by omega
     subst t;go_wp2_with fail;go_ret;exact⟨_,rfl,G,h⟩
def II{x:aB}{b:Nat}{o:Obj}(h:x.heap[b]? =some o):x.drew.heap[b]? =some o:=h
def Al{c:Type}(a b:c):Nat->c:=fun j=>if j=0 then a else b
def A_{d:Type}(a b c:d):Nat->d:=fun j=>if j=0 then a else if j=1 then b else c
def CD(a b:aM):jv (Al a b) 2=a++b:=by simp[jv,Al,wI]
def E6(a b c:aM):jv (A_ a b c) 3=a++b++c:=by simp[jv,A_,wI]
@[go_sem ↓ high] def af8 (w:aB):Sem.run prog (zeroValue 134) w=.ok (aE (bC aQ)) w:=by kernel_rfl
@[go_sem] def afy:dZ prog 134 =true:=by kernel_rfl
@[go_sem] def ahl:prog.cellsOf 134 =16:=by kernel_rfl
def v8(x:aK):(prog.info? 134).map (fun x=>x.size)=some (bC x).toArray.size:=by
 rw[bQ,aO];kernel_rfl
def Gn(i:Nat)(hi:i<4294967296)(v:Value)(b:aM)(U:b.length<=1000)(w:aB)(J:Kt w)(L:gC w v b):Calls prog 62 #[.int .i64 (i:Int),v] w (RG w (aE (bC (jx i b)))):=by
 obtain⟨n,K⟩:=ex w.heap.size;have P:=aA K;have e0:IntKind.u32.wrap (i:Int)=(i:Int):=by rw[IntKind.wrap_u32];omega
 have G:=tV i 24;have H:=tV i 16;have I:=tV i 8;have e4:=o7 i
 have D:Hid (gS 0 i=[0,UInt8.ofNat (i/2^24),UInt8.ofNat (i/2^16),UInt8.ofNat (i/2^8),UInt8.ofNat i]):=rfl;have s:Hid (cF (gS 0 i++b)=jx i b):=rfl;have d:=aA (qJ 0 i);generalize jx i b=y at*
 generalize gS 0 i=l at*
 generalize UInt8.ofNat (i/2^24)=u at*
 generalize UInt8.ofNat (i/2^16)=x at*
 generalize UInt8.ofNat (i/2^8)=z at*
 generalize UInt8.ofNat i=F at*
 have R:IntKind.u8.wrap ((i:Int)/16777216)=(u.toNat:Int):=G;have S:IntKind.u8.wrap ((i:Int)/65536)=(x.toNat:Int):=H;have T:IntKind.u8.wrap ((i:Int)/256)=(z.toNat:Int):=I;have Q:=aA L;have O:=aA J;obtain⟨a,c,rfl,V,-⟩:=L;obtain⟨E,m,p,B,-,o⟩:=jP K (aC (bC aQ) 134) (.cells #[.int .u8 0,.int .u8 (u.toNat:Int),.int .u8 (x.toNat:Int),.int .u8 (z.toNat:Int),.int .u8 (F.toNat:Int)] 5) (.cells #[aR (n+1) 0 5 5,.slice a b.length c] 94)
 have M:Hid (aZ E n (aR (n+1) 0 5 5) l):=by
  show aZ _ _ _ _;rw[D.out];exact aZ.made (l:=[0,u,x,z,F]) (by rw[<-m];exact(((Gr.refl _).alloc _).block (by simp;omega)).trans (aY _ _ _ (by simp;omega))) (sK _) (by simp)
 have C:=aA (M7 (n+1+1) 2 2 (Al (aR (n+1) 0 5 5) (.slice a b.length c)) (Al l b) E (by rw[CD,bV,d.out];omega) (by rw[CD,bV,d.out];omega) (aH rfl) (aI o) (fun j hj=>by
  have h:j=0\/j=1:=by omega
  rcases h with rfl|rfl
  .exact⟨bH (cs:=[aR (n+1) 0 5 5,.slice a b.length c]) o 0,M.bytG⟩
  .exact⟨bH (cs:=[aR (n+1) 0 5 5,.slice a b.length c]) o 1,Q.gr p⟩))
 rw[CD]at C;have t:=aA (show (l++b).length<=900000 by rw[bV,d.out];omega)
 have c1:=aO y;have c2:=cZ y;replace m:=aA m;go_in;go_wp2_with (first
  |(go_at_call 103;rw[m.out];refine C.mono ?_;rintro e Y ⟨X,rfl,W,f⟩)
  |(go_at_call 31;refine(wO X _ Y (O.gr (p.trans f)) t W.bytG).mono ?_;rw[s.out];rintro e Z ⟨rfl,g⟩;have q:=aA ((p.trans f).trans g);have k:=aA (((f.trans g).block (aI B)).trans B);have z0:=aP k 0 16 (by simp[aO]);have z1:=bE k 0 16;have z2:=aI k))
 have N:Hid (HB (Z.setCells n 0 (bC y)) n (bC y) 134):=bO k (by simp[aO])
 have r:=aA (q.setsOwn (b:=n) (by have:=P.out;omega) (bC y) 0);refine bI (dY rfl _ _ n _ _ _ _ rfl N underlying134 rfl (v8 _)) rfl ?_;exact⟨rfl,r⟩
def Ji(c:Nat)(a b:aK)(w:aB)(K:Kt w):Calls prog 147 #[.int .i64 (c:Int),aE (bC a),aE (bC b)] w (RG w (aE (bC (ia c a b)))):=by
 obtain⟨n,C⟩:=ex w.heap.size;have V:=aA C;obtain⟨x,D⟩:=ex (UInt8.ofNat c);have e1:IntKind.u8.wrap (c:Int)=(x.toNat:Int):=by rw[<-D];exact o7 c
 have z:=aA (show cF ([1,x]++a.toList++b.toList)=ia c a b by rw[<-D];rfl)
 generalize ia c a b=y at*
 obtain⟨u,m,T,Q,S,F⟩:=jP C (aC (bC a) 134) (aC (bC b) 134) (aC (bC aQ) 134)
 have U:=aA K;have s:=aA (show u.heap.size=n+1+1+1 by rw[<-m];simp;omega)
 have Z:=aO y;have c2:=cZ y;replace m:=aA m;go_in;go_wp2_with fail;rw[m.out];obtain⟨g,d⟩:=ex (((u.alloc (.cells #[.int .u8 1,.int .u8 (x.toNat:Int)] 5)).alloc (.cells #[aR (n+1+1+1) 0 2 2,aR n 0 16 16,aR (n+1) 0 16 16] 94)).drew);have o:Gr u g:=by rw[<-d];exact(((Gr.refl u).alloc _).alloc _).drew
 have r:g.heap[n+1+1+1+1]? =some (.cells #[aR (n+1+1+1) 0 2 2,aR n 0 16 16,aR (n+1) 0 16 16] 94):=by
  rw[<-d];exact II (aY _ _ _ (by have:=s.out;first|omega|(simp;omega)))
 have N:aZ g n (aR (n+1+1+1) 0 2 2) [1,x]:=aZ.made (l:=[1,x]) (by
  rw[<-d];exact II ((((Gr.refl _).alloc _).block (by have:=s.out;first|omega|(simp;omega))).trans (aY _ _ _ (by have:=s.out;first|omega|(simp;omega))))) (by omega) (by simp)
 have O:gC g (aR n 0 16 16) a.toList:=⟨some (aD n 0),16,by simp,by simp,.inr ⟨n,0,rfl,(cS.vec Q).gr o⟩⟩;have P:gC g (aR (n+1) 0 16 16) b.toList:=⟨some (aD (n+1) 0),16,by simp,by simp,.inr ⟨n+1,0,rfl,(cS.vec S).gr o⟩⟩
 have G:=aA (M7 (n+1+1+1+1) 3 3 (A_ (aR (n+1+1+1) 0 2 2) (aR n 0 16 16) (aR (n+1) 0 16 16)) (A_ [1,x] a.toList b.toList) g (by rw[E6];simp) (by rw[E6];simp) (aH rfl) (aI r) (fun j hj=>by
  have h:j=0\/j=1\/j=2:=by omega
  rcases h with rfl|rfl|rfl
  .exact⟨bH (cs:=[aR (n+1+1+1) 0 2 2,aR n 0 16 16,aR (n+1) 0 16 16]) r 0,N.bytG⟩
  .exact⟨bH (cs:=[aR (n+1+1+1) 0 2 2,aR n 0 16 16,aR (n+1) 0 16 16]) r 1,O⟩
  .exact⟨bH (cs:=[aR (n+1+1+1) 0 2 2,aR n 0 16 16,aR (n+1) 0 16 16]) r 2,P⟩))
 rw[E6]at G;have k:=aA (show ([1,x]++a.toList++b.toList).length=34 by simp)
 generalize[1,x]++a.toList++b.toList=L at*
 have i:=aA (T.trans o);have H:=aA ((o.block (aI F)).trans F);replace d:=aA d;have hs:=s.out;apply rH (R:=fun _ _ I=>Hid (HB I (n+1+1) (bC y) 134)/\Hid (Gr w I))
 case h=>
  go_region_law (first
   |(go_simp;go_at_call 103;rw[d.out];refine G.mono ?_;rintro e X ⟨v1,rfl,M,f⟩;obtain⟨J,E,q⟩:=M.shape;rw[k.out]at q;subst q)
   |(go_simp;go_at_call 31;refine(wO (.slice J 34 E) _ X (U.gr (i.trans f)) (by rw[k.out];decide) M.bytG).mono ?_;rw[z.out];rintro e w2 ⟨rfl,p⟩;have v:=aA ((i.trans f).trans p);have t:=aA (((f.trans p).block (aI H)).trans H);have z0:=aP t 0 16 (by simp[aO]);have z1:=bE t 0 16;have z2:=aI t))
  all_goals exact⟨J,E,⟨bO t (by simp[aO]),v.setsOwn (b:=n+1+1) (by have:=V.out;omega) (bC y) 0⟩,rfl⟩
 rintro x1 E Y ⟨W,B⟩;go_wp2_with fail;refine bI (dY rfl _ _ (n+1+1) _ _ _ _ rfl W underlying134 rfl (v8 _)) rfl ?_;exact⟨rfl,B⟩
def dM(W:World)(v:Value)(l:List aK):Prop:=bX W v 16 (l.map bC)
def dM.gr{W a:World}{v:Value}{l:List aK}(h:dM W v l)(b:Gr W a):dM a v l:=bX.gr h b
def AL(l:List aK):∀r∈l.map bC,r.length=16:=by
 intro r a;obtain⟨x,_,rfl⟩:=iQ.1 a;exact aO x
def DQ(l:List aK):∀r∈l.map bC,cN r=true:=by
 intro r a;obtain⟨x,_,rfl⟩:=iQ.1 a;exact cZ x
def dA(t:TypeId)(W:World)(base:Nat)(v:Value)(l:List aK):Prop:=W.ownsRow base t 16 v l.length (l.flatMap bC)
def dA.gr{t:TypeId}{w w':World}{base:Nat}{v:Value}{l:List aK}(h:dA t w base v l)(a:Gr w w'):dA t w' base v l:=mM h a.grownBy (by cases v.ownBlock<;>simp)
def dA.nds{t:TypeId}{W:World}{base:Nat}{v:Value}{l:List aK}(h:dA t W base v l):dM W v l:=rf (AL l) (by rw[cL];exact h)
def dA.base{t:TypeId}{W:World}{b d:Nat}{v:Value}{l:List aK}(h:dA t W b v l)(m:d<=b):dA t W d v l:=by
 obtain⟨j,k⟩:=h;refine⟨j,k.imp id ?_⟩;rintro⟨g,a,c,e,f,i⟩;exact⟨g,a,c,e,eu m f,i⟩
def dA.nil(t:TypeId)(w:World)(base:Nat):dA t w base (.slice none 0 0) []:=⟨rfl,.inl ⟨rfl,rfl⟩⟩
def dA.shape{t:TypeId}{W:World}{base:Nat}{v:Value}{l:List aK}(h:dA t W base v l):∃a c,v=.slice a l.length c:=by
 obtain⟨a,c,b,_⟩:=ql h;exact⟨a,c,b⟩
def Fw(l:List aK):(l.flatMap bC).length=l.length*16:=by
 induction l with
 |nil=>rfl
 |cons x l a=>rw[n_,bV,aO,a,dN];omega
def dA.made{t:TypeId}{w:World}{base b:Nat}{l:List aK}(h:w.heap[b]? =some (.cells (l.flatMap bC).toArray t)) (a:base<=b) (c:l.length<=1000000):dA t w base (.slice (some ⟨b,0,none⟩) l.length l.length) l:=
 ⟨by rw[Fw],.inr ⟨b,l.length,_,rfl,a,h,aU _,by unfold maxLen;omega,by rw[bQ,Fw],by rw[wN,eq (by rw[Fw];exact aU _)]⟩⟩
def dA.one{t:TypeId}{w:World}{base b:Nat}{x:aK}(h:w.heap[b]? =some (.cells (bC x).toArray t)) (a:base<=b):dA t w base (.slice (some ⟨b,0,none⟩) 1 1) [x]:=
 dA.made (l:=[x]) (by rw[h];simp) a (by simp)
def dA.kept{t:TypeId}{w w':World}{base:Nat}{v:Value}{l:List aK}{b:Nat}(h:dA t w base v l)(c:w.grownBy w' (some b))(a:v.ownBlock≠some b):dA t w' base v l:=mM h c (.inr a)
def dA.own{t:TypeId}{w:World}{base:Nat}{v:Value}{l:List aK}(h:dA t w base v l){k:Nat}(a:v.ownBlock=some k):base<=k/\k<w.heap.size:=fA h k a
def xf(t:TypeId):Prop:=∃i z,prog.info? t=some i/\i.zero=some z/\i.size=16/\i.bytes=16/\z.cells.size=16
def KM{t:TypeId}(h:(prog.info? t).map (fun i=>(i.zero.map (fun z=>z.cells.size),i.size,i.bytes))=some (some 16,16,16)):xf t:=by
 cases hi:prog.info? t with
 |none=>rw[hi]at h;cases h
 |some i=>
  rw[hi]at h;simp only[jm,qE,rk]at h;obtain⟨z,b,a⟩:=o4.1 h.1;exact⟨i,z,hi,b,h.2.1,h.2.2,a⟩
def u':xf 134 :=KM (by kernel_rfl)
def Q2:xf 22 :=KM (by kernel_rfl)
def wq(w:World){c:Array Oper}{rest:List Oper}{o:Oper}{a:Act}{Q:Exit->Act->World->Prop}(g:o.guard=none)(s x:Operand)(f t:TypeId)
  (r:o.op=.call { callee:=.builtin .append,args:=#[s,x],argTypes:=#[f,f] }) (ht:prog.underlying f=some (.slice t)) (hi:xf t) (base:Nat) (v:Value) (xs:List aK) (hs:a.eval s=v) (hown:dA t w base v xs)
  (sv:Value) (ys:List aK) (hx:a.eval x=sv) (hsl:dM w sv ys) (n:Nat) (hn:xs.length+ys.length=n) (h63:n<=1000000) (hbase:base<=w.heap.size)
  (h:∀d e w',dA t w' base (.slice d n e) (xs++ys)->w.grownBy w' v.ownBlock->wpList prog c Q rest (a.put o.dst (.slice d n e)) w'):
  wpList prog c Q (o::rest) a w:=by
 subst hn;obtain⟨i,z,k,l,m,p,q⟩:=hi;have j:(ys.map bC).length=ys.length:=cL ..;refine tU w g s x f r base t i z 16 16 ht k l m p q (by decide) v xs.length (xs.flatMap bC) hs hown sv (ys.map bC) hx hsl (AL _) (DQ _) (by rw[j];exact h63) (by decide) hbase ?_;intro d e w' b hg _;rw[j]at b|-
 refine h d e w' ?_ hg;unfold dA;rw[bV,pG];exact b
def Px{c:Array Oper}{o:Oper}{a:Act}{w:World}{K:Act->World->Prop}{Q:Exit->Act->World->Prop}{E:Prop}
  (m:o.guard=none) (d:Nat) (l:o.dst=some d) (s x:Operand) (g t:TypeId) (h:o.op=Op.call { callee:=Callee.builtin Builtin.append,args:=#[s,x],argTypes:=#[g,g] }) (ht:prog.underlying g=some (.slice t)) (hi:xf t)
  (base:Nat) (v:Value) (xs:List aK) (hs:a.eval s=v) (hown:dA t w base v xs) (sv:Value) (ys:List aK) (hx:a.eval x=sv) (hsl:dM w sv ys) (N:Nat) (hN:xs.length+ys.length=N) (h63:N<=1000000) (hbase:base<=w.heap.size)
  (hK:∀e f w',dA t w' base (.slice e N f) (xs++ys)->w.grownBy w' v.ownBlock->K (a.put (some d) (.slice e N f)) w'):
  if Region.wanted o (yielded c a.tmps)=true then Oper.wp prog o a w K Q else E:=by
 subst hN;have n:Region.wanted o (yielded c a.tmps)=true:=by simp[Region.wanted,m]
 rw[aG n];obtain⟨i,z,p,q,r,u,y⟩:=hi;have k:(ys.map bC).length=ys.length:=cL ..;obtain⟨e,f,w',b,j,h3,_⟩:=v_ (P:=prog) w base g o.type t i z 16 16 ht p q r u y (by decide) v xs.length (xs.flatMap bC) hown sv (ys.map bC) hsl (AL _) (DQ _) (by rw[k];exact h63) (by decide) hbase;rw[k]at b j;unfold Oper.wp;simp[execOp,h,resolve,invoke,builtin,hs,hx,b,Result.andThen];show K (a.put o.dst _) w';rw[l];refine hK e f w' ?_ h3;unfold dA;rw[bV,pG];exact j
@[go_sem ↓] def agf {P:Program} (b:Operand->Value) (d:Option Tmp) (a:Array (Nat×Operand)) (e:TypeId) (p:String) (c:Array Edge) (g:Option (Nat×Bool)) (w:World):
  Sem.run P (execOp b ⟨d,.buildSlice 90 1 a,e,p,c,g⟩) w=jI P 90 1 (a.map fun x=>(x.1,b x.2)) w:=rfl
def Pp(f:Nat->Value)(w:World):(Instr.buildSlice 90 1 #[(0,.agg ((List.range 16).map f).toArray)]).run prog w=.ok (.slice (some ⟨w.heap.size,0,none⟩) 1 1) (w.alloc (.cells ((List.range 16).map f).toArray 134)):=by kernel_rfl
@[go_sem] def afx (y:aK) (w:World):jI prog 90 1 #[(0,.agg (bC y).toArray)] w=.ok (.value (.slice (some ⟨w.heap.size,0,none⟩) 1 1)) (w.alloc (.cells (bC y).toArray 134)):=qc (by rw[ly];exact Pp _ w)
@[go_sem ↓] def afg {P:Program} (b:Operand->Value) (d:Option Tmp) (a:Array (Nat×Operand)) (e:TypeId) (p:String) (c:Array Edge) (g:Option (Nat×Bool)) (w:World):
  Sem.run P (execOp b ⟨d,.buildSlice 30 1 a,e,p,c,g⟩) w=jI P 30 1 (a.map fun x=>(x.1,b x.2)) w:=rfl
def aaG(f:Nat->Value)(w:World):(Instr.buildSlice 30 1 #[(0,.agg ((List.range 16).map f).toArray)]).run prog w=.ok (.slice (some ⟨w.heap.size,0,none⟩) 1 1) (w.alloc (.cells ((List.range 16).map f).toArray 22)):=by kernel_rfl
@[go_sem] def agU (y:aK) (w:World):jI prog 30 1 #[(0,.agg (bC y).toArray)] w=.ok (.value (.slice (some ⟨w.heap.size,0,none⟩) 1 1)) (w.alloc (.cells (bC y).toArray 22)):=qc (by rw[ly];exact aaG _ w)
structure pI(W:World)(b k:Nat)(x:aK):Prop where
 h:hasRow W ⟨b,k,none⟩ 16=true
 r:rowAt W ⟨b,k,none⟩ 16=bC x
 z:b<W.heap.size
def pI.gr{W c:World}{b k:Nat}{x:aK}(h:pI W b k x)(a:Gr W c):pI c b k x:=⟨(a.hasRow h.z).trans h.h,(a.rowAt h.z).trans h.r,dQ h.z a.size⟩
def Ls{w:World}{b k n:Nat}{cs:List Value}(c:hasRow w ⟨b,k,none⟩ n=true)(d:rowAt w ⟨b,k,none⟩ n=cs)(m:Nat)(a:m<n):w.cell? ⟨b,k+m,none⟩=cs[m]? :=by
 subst d;have h:=kr.1 c m a;rw[fO]at h;unfold rowAt;rw[fo,qf a,jm,fO]
 cases hc:w.cell? ⟨b,k+m,none⟩with
 |none=>rw[hc]at h;cases h
 |some v=>rfl
def pI.rng{W:World}{b k:Nat}{x:aK}(h:pI W b k x):W.rangeAt b k (bC x):=fun j v c=>by
 have a:=(nG.1 c).1;rw[aO]at a;exact(Ls h.h h.r j a).trans c
def dM.open{W:World}{v:Value}{l:List aK}(h:dM W v l)(g:l≠[]):∃b k c,v=.slice (some ⟨b,k,none⟩) l.length c/\l.length<=c/\∀j (d:j<l.length),pI W b (k+j*16) l[j]:=by
 obtain⟨a,c,rfl,f,d⟩:=h;have q:(l.map bC).length=l.length:=cL ..;rw[q]at f|-
 have s:0<l.length:=rd.2 g;obtain⟨b,k,o,_⟩:=d 0 (by omega);subst o;refine⟨b,k,c,rfl,f,fun j p=>?_⟩;obtain⟨r,t,e,i,m,n⟩:=d j (by omega);injection e with e;injection e with e1 e2 e3;subst e1;subst e2;exact⟨m,by rw[n,ig],i⟩
def dA.open{t:TypeId}{W:World}{base:Nat}{v:Value}{l:List aK}(h:dA t W base v l)(f:l≠[]):∃g c,v=.slice (some ⟨g,0,none⟩) l.length c/\l.length<=c/\base<=g/\g<W.heap.size/\∀j (d:j<l.length),pI W g (j*16) l[j]:=by
 have q:0<l.length:=rd.2 f;obtain⟨b,k,c,i,p,d⟩:=h.nds.open f;rcases h.2 with⟨_,r⟩|⟨g,m,n,a,o,_⟩
 .omega
 .rw[i]at a
  injection a with a e3 e4;injection a with a;injection a with a e5 e6;subst a;subst e5;refine⟨b,c,i,p,o,(d 0 q).z,fun j e=>?_⟩;have:=d j e;rwa[fB]at this
def adQ(w:World)(v:Value)(l:List aK)(i:dM w v l)(s:l≠[])(z:l.length<=1000):Calls prog 146 #[v] w fun e w'=>∃m,e=.returned m/\dA 134 w' w.heap.size m l/\Gr w w':=by
 obtain⟨b,k,c,rfl,y,-⟩:=i.open s;have j:∀W,(binOp .eql 90 (.slice (some ⟨b,k,none⟩) l.length c) (.slice none 0 0)).run prog W=.ok (.bool false) W:=fun W=>aaI W _ _ _ _ _ _ _ underlying90;go_enter func146,ntmps146;have o:Hid (dA 134 (w.alloc (.cells #[] 134)) w.heap.size (.slice (some ⟨w.heap.size,0,none⟩) 0 0) []):=dA.made (l:=[]) (cM w _) (aU _) (by simp);have p:=aA (i.gr ((Gr.refl w).alloc (.cells #[] 134)));have n:Hid (Gr w (w.alloc (.cells #[] 134))):=(Gr.refl w).alloc _;clear i;go_wp2_with (at_builtin;refine wq _ rfl _ _ 90 134 rfl underlying90 u' w.heap.size (.slice (some ⟨w.heap.size,0,none⟩) 0 0) [] (by simp[Act.eval]) o (.slice (some ⟨b,k,none⟩) l.length c) l (by simp[Act.eval]) p l.length (by simp) (by omega) (by simp) ?_;intro r u x d a);have f:=aA (n.grown a (fun q t=>by have h:w.heap.size=q:=iP t;omega));have g:Hid (dA 134 x w.heap.size (.slice r l.length u) l):=d;clear d a;go_wp2_with fail;go_ret;exact⟨_,rfl,g,f⟩
def Uv(A:dB->Nat->Nat->Act)(R:dB->Nat->aB->Prop)(e:Exit)(a:Act)(w:aB):Prop:=match e with| .normal=>∃x n k,R x n w/\a=A x n k|_=>False
def SZ{P:Program}{c:Code}{Q':Exit->Act->aB->Prop}{a:Act}{w:aB}(A:dB->Nat->Nat->Act)(R:dB->Nat->aB->Prop)(h:c.wp P (Uv A R) a w)(f:∀x n k W,R x n W->Q' .normal (A x n k) W):c.wp P Q' a w:=
 qM (fun e a w h=>by cases e<;>first|exact h.elim|(obtain⟨x,n,k,b,d⟩:=h;subst d;exact f x n k w b)) h
def MZ(b k c:Nat)(w:aB):Calls prog 97 #[aR b k 2 c] w fun e w'=>e=.returned (.int .i64 0)/\w=w':=by
 have a:bits .and .i64 2 1=0:=by decide
 go_in;go_wp2_with fail;go_ret;exact⟨rfl,rfl⟩
def Pi:(prog.info? 90).map (fun i=>(i.zero,i.size,i.bytes))=some (some (.slice none 0 0),1,24):=by kernel_rfl
def Y':∃i z,prog.info? 90 =some i/\i.zero=some z/\i.size=1/\i.bytes=24/\z.cells.size=1:=by
 obtain⟨i,hi,h⟩:=o4.1 Pi;simp only[rk]at h;exact⟨i,_,hi,h.1,h.2.1,h.2.2,rfl⟩
def mP(W:aB)(base:Nat)(v:Value)(l:bF):Prop:=W.ownsRow base 90 1 v l.length l
def mP.made{W:aB}{base b:Nat}{v:Value}(h:W.heap[b]? =some (.cells #[v] 90)) (a:base<=b):mP W base (aR b 0 1 1) [v]:=
 ⟨rfl,.inr ⟨b,1,_,rfl,a,h,aU _,by unfold maxLen;omega,rfl,rfl⟩⟩
def mP.gr{w w':aB}{base:Nat}{v:Value}{l:bF}(h:mP w base v l)(a:Gr w w'):mP w' base v l:=mM h a.grownBy (by cases v.ownBlock<;>simp)
def mP.open{w:aB}{base:Nat}{v p q:Value}(h:mP w base v [p,q]):∃g c,v=aR g 0 2 c/\2<=c/\g<w.heap.size/\w.cell? (aD g 0)=some p/\w.cell? (aD g 1)=some q:=by
 obtain⟨_,f⟩:=h;rcases f with⟨_,h0⟩|⟨g,a,e,j,k,b,i,m,n,d⟩
 .cases h0
 .refine⟨g,a,j,i,(bY.1 b).1,?_,?_⟩
  .rw[oW _ _ _ _ _ _ b]
   have:=ei (fun l=>l[0]?) d
   simpa using this
  .rw[oW _ _ _ _ _ _ b]
   have:=ei (fun l=>l[1]?) d
   simpa using this
def Vm(w:aB){b:Array Oper}{rest:List Oper}{o:Oper}{a:Act}{Q:Exit->Act->aB->Prop}(e:o.guard=none)(s x:Operand)
  (p:o.op=.call { callee:=.builtin .append,args:=#[s,x],argTypes:=#[187,187] }) (base:Nat) (v:Value) (xs:bF) (hs:a.eval s=v) (hown:mP w base v xs)
  (sv y:Value) (hy:y.oneCell'=true) (hx:a.eval x=sv) (hsl:mP w 0 sv [y]) (n:Nat) (hn:xs.length+1=n) (h63:n<=1000000) (hbase:base<=w.heap.size)
  (h:∀c d w',mP w' base (.slice c n d) (xs++[y])->w.grownBy w' v.ownBlock->wpList prog b Q rest (a.put o.dst (.slice c n d)) w'):
  wpList prog b Q (o::rest) a w:=by
 subst hn;obtain⟨i,z,g,j,k,l,m⟩:=Y';refine tU w e s x 187 p base 90 i z 1 24 underlying187 g j k l m (aH rfl) v xs.length xs hs hown sv [[y]] hx (rf (by simp) hsl) (by simp) (by simp[cN,hy]) h63 (aH rfl) hbase ?_;intro c d w' f hg _;refine h c d w' ?_ hg;unfold mP;rw[bV];exact f
def xX(W:aB)(v:Value)(x y:aK):Prop:=∃g c a b,v=aR g 0 2 c/\2<=c/\W.cell? (aD g 0)=some a/\W.cell? (aD g 1)=some b/\g<W.heap.size/\dM W a [x,y]/\dM W b [ia 1 x y]
def I2(v:Value)(x y:aK)(w:aB)(hK:Kt w)(hv:dM w v [x,y]):Calls prog 98 #[v] w fun e w'=>∃t,e=.returned t/\xX w' t x y/\Gr w w':=by
 have HK:=aA hK;have HC:=aA (adQ w v [x,y] hv (by simp) (by simp));obtain⟨j,hj⟩:=ex (ia 1 x y);have HJ:Hid (∀W,Kt W->CG 147 #[.int .i64 1,aE (bC x),aE (bC y)] W (aE (bC j))):=fun W h=>by rw[<-hj];exact Ji 1 x y W h
 have b1:=aO j;have b2:=cZ j;have b3:=aO x;have b4:=cZ x;have b5:=aO y;have b6:=cZ y;go_in;go_wp2_with (go_at_call 146;refine HC.mono ?_;rintro e s ⟨v1,rfl,Y,n⟩;obtain⟨c,f,rfl,ad,ac,a6,G⟩:=Y.open (by simp);have L:=aA G;have HO:=aA Y;clear G Y);have g:=(Gr.refl s).alloc (.cells #[aR c 0 2 f] 90);obtain⟨T,E⟩:=ex s.heap.size;have cT:(s.alloc (.cells #[aR c 0 2 f] 90)).cell? (aD T 0)=some (aR c 0 2 f):=bH (cs:=[aR c 0 2 f]) (aY _ _ _ E.symm) 0;have zT:T<(s.alloc (.cells #[aR c 0 2 f] 90)).heap.size:=by simp;omega
 have i:Hid (pI (s.alloc (.cells #[aR c 0 2 f] 90)) c 0 x):=(L 0 (by simp)).gr g;have B:Hid (pI (s.alloc (.cells #[aR c 0 2 f] 90)) c 16 y):=(L 1 (by simp)).gr g;have M:=aA (HO.gr g);have u:=aA (n.trans g);have N:Hid (mP (s.alloc (.cells #[aR c 0 2 f] 90)) w.heap.size (aR T 0 1 1) [aR c 0 2 f]):=mP.made (aY _ _ _ E.symm) (E▸n.size);have V:w.heap.size<=T:=E▸n.size;rw[E];have a8:c<T:=E▸a6;have O:=aA zT;generalize s.alloc (.cells #[aR c 0 2 f] 90)=C at*
 refine sS 2 ?_;rw[lS];go_wp2_with fail;refine sS 2 ?_;rw[lS];go_wp2_with fail;have KS:Hid (∀W,Gr C W->W.rangeAt c 0 (bC x)/\W.rangeAt c 16 (bC y)):=fun W hW=>⟨(i.gr hW).rng,(B.gr hW).rng⟩;have k1:=i.h;have k2:=i.r;have k3:=i.z;have k4:=B.h;have k5:=B.r;have a9:IntKind.i64.wrap (0+1)=1:=by decide
 have aa:IntKind.i64.wrap 1=1:=by decide
 have ab:(0:Int)+1=1:=rfl;have zU:w.heap.size<=C.heap.size:=u.size;apply SZ (R:=fun a m W'=>Hid (dA 134 W' C.heap.size (.slice a 1 m) [j])/\Hid (Gr C W'))
 case h=>
  go_region_law
   (first
    |(go_simp;go_at_call 147;refine bA (HJ _ (HK.gr (u.trans (Gr.refl C).drew))) fun I S=>?_;have G4:=(Gr.refl C).drew.trans S)
    |(refine Px rfl 42 rfl (.tmp 28) (.tmp 41) 90 134 rfl underlying90 u' C.heap.size (.slice none 0 0) [] (by simp[Act.eval]) (dA.nil _ _ _) (aR (I.heap.size) 0 1 1) [j] (by simp[Act.eval]) (dA.one (cM I _) (b:=I.heap.size) (base:=0) (bW _)).nds 1 rfl (aH rfl) (by have:=G4.size;simp;omega) ?_;intro l p w5 Z U;have G5:=(G4.alloc (aC (bC j) 134)).grown U (fun k hk=>by cases hk)))
  all_goals (have P:=km (aA Z) (aA G5);obtain⟨H,X⟩:∃H,I.heap.size=H:=⟨_,rfl⟩;rw[X];exact⟨l,p,H,P,rfl⟩)
 rintro l p H D ⟨a2,o⟩;go_wp2_with fail;rw[lS];have d:=(Gr.refl D).alloc (.cells #[.slice l 1 p] 90);have O7:=aA ((N.gr o).gr d);have O8:Hid (mP (D.alloc (.cells #[.slice l 1 p] 90)) 0 (aR (D.heap.size) 0 1 1) [.slice l 1 p]):=mP.made (cM D _) (bW _);have z7:w.heap.size<=(D.alloc (.cells #[.slice l 1 p] 90)).heap.size:=eu zU (eu o.size d.size);have N1:=aA (M.gr (o.trans d));have N2:=aA (a2.gr d);have J:=aA (u.trans (o.trans d));go_wp2_with (at_builtin;refine Vm _ rfl _ _ rfl w.heap.size (aR T 0 1 1) [aR c 0 2 f] (by simp[Act.eval]) O7 (aR (D.heap.size) 0 1 1) (.slice l 1 p) rfl (by simp[Act.eval]) O8 2 rfl (aH rfl) z7 ?_;intro a3 n3 w3 a4 F;obtain⟨tg,tc,a5,a7,tz,t0,t1⟩:=a4.open;injection a5 with htv1 htv2 htv3;subst htv1;subst htv3);have Q:∀k,(Value.slice (some (aD T 0)) 1 1).ownBlock=some k->k=T:=fun k hk=>by have h:T=k:=iP hk;exact h.symm
 have K:=aA (J.grown F (fun k hk=>by rw[Q k hk];exact V));have q:World.grownBy (D.alloc (.cells #[.slice l 1 p] 90)) w3 (some T):=F;have M1:Hid (dM w3 (aR c 0 2 f) [x,y]):=(N1.kept q (fun e=>by have h:c=T:=iP e;omega)).nds;have M2:Hid (dM w3 (.slice l 1 p) [j]):=(N2.kept q (fun e=>by have h1:=(N2.own e).1;have:=O.out;omega)).nds;rw[lS];go_wp2_with fail;go_ret;refine⟨_,rfl,⟨tg,n3,_,_,rfl,a7,t0,t1,tz,M1,by rw[hj];exact M2⟩,K⟩
def xX.gr{W d:aB}{v:Value}{x y:aK}(h:xX W v x y)(a:Gr W d):xX d v x y:=by
 obtain⟨g,c,m,n,e,j,f,i,b,k,l⟩:=h;exact⟨g,c,m,n,e,j,(a.cell (p:=⟨g,0,none⟩) b).trans f,(a.cell (p:=⟨g,1,none⟩) b).trans i,dQ b a.size,k.gr a,l.gr a⟩
def dM.at{W:aB}{v:Value}{l:List aK}(h:dM W v l)(d:l≠[])(n:Nat)(i:l.length=n):∃b k c,v=aR b k n c/\n<=c/\∀j x,l[j]? =some x->pI W b (k+j*16) x:=by
 subst i;obtain⟨b,k,c,m,f,g⟩:=h.open d;refine⟨b,k,c,m,f,fun j x o=>?_⟩;obtain⟨a,e⟩:=nG.1 o;rw[<-e];exact g j a
def OD(v:Value)(x y:aK)(w:aB)(u:Kt w)(q:dM w v [x,y]):Calls prog 58 #[v] w (RG w (.tuple #[aE (bC (ia 1 x y)),.int .i64 0])):=by
 obtain⟨n,B⟩:=ex w.heap.size;have D:=aA B;have E:=aA q;obtain⟨b,k,c,rfl,T,-⟩:=q.at (by simp) 2 rfl;have s:Hid (HB (w.alloc (aC (bC aQ) 134)) n (bC aQ) 134):=aY _ _ _ B.symm
 have l:Hid (Gr w (w.alloc (aC (bC aQ) 134))):=(Gr.refl w).alloc _;have p:=aA (I2 _ x y _ (u.gr l) (E.gr l));have L:=aO (ia 1 x y);have F:=cZ (ia 1 x y);go_in;go_wp2_with (first
  |(go_at_call 97;refine dK (MZ _ _ _ _) ?_)
  |(go_at_call 98;refine p.mono ?_;rintro e J ⟨t,rfl,⟨g,O,X,Y,rfl,G,M,N,U,W,I⟩,f⟩;obtain⟨F,V,P,rfl,H,i⟩:=I.at (by simp) 1 rfl;have d:=i 0 _ rfl;rw[rx,ms]at d;have K:=aA d;have Q:=d.h;have R:=d.r;have S:=d.z;have a:=aA ((f.block (aI s)).trans s);have m:=aA (l.trans f);have Z:=aP a 0 16 (by simp[aO]);have z1:=bE a 0 16;have z2:=aI a;clear i d))
 generalize ia 1 x y=j at*
 have C:Hid (HB (J.setCells n 0 (bC j)) n (bC j) 134):=bO a (by simp[aO])
 have o:=aA (m.setsOwn (b:=n) (by have:=D.out;omega) (bC j) 0);refine bI (jA rfl _ _ n _ _ _ _ rfl C underlying134 rfl (v8 _)) rfl ?_;exact⟨rfl,o⟩
def TD(t:Value)(x y:aK)(w:aB)(q:xX w t x y):Calls prog 169 #[t,.int .i64 0] w fun e w'=>∃v,e=.returned v/\dA 134 w' w.heap.size v [y]/\Gr w w':=by
 obtain⟨g,D,K,L,rfl,p,B,C,I,s,J⟩:=q;obtain⟨b,k,c,rfl,H,m⟩:=s.at (by simp) 2 rfl;have j:=m 1 y rfl;rw[Nat.one_mul]at j;have E:=j.h;have F:=j.r;have G:bits .xor .i64 0 1=1:=by decide
 go_in;go_wp2_with fail;refine sS 2 ?_;rw[lS];have l:=(Gr.refl w).alloc (aC (bC y) 134);have n:Hid (dA 134 (w.alloc (aC (bC y) 134)) 0 (aR (w.heap.size) 0 1 1) [y]):=dA.one (cM w _) (bW _);go_wp2_with (at_builtin;refine wq _ rfl _ _ 90 134 rfl underlying90 u' w.heap.size (.slice none 0 0) [] (by simp[Act.eval]) (dA.nil _ _ _) (aR (w.heap.size) 0 1 1) [y] (by simp[Act.eval]) n.nds 1 rfl (aH rfl) (by simp) ?_;intro o u z d a);rw[lS];have i:Hid (dA 134 z w.heap.size (.slice o 1 u) [y]):=d;have f:=aA (l.grown a (fun k hk=>by cases hk));go_wp2_with fail;go_ret;exact⟨_,rfl,i,f⟩
def acq(v:Value)(x y:aK)(w:aB)(i:Kt w)(d:dM w v [x,y]):Calls prog 117 #[v,.int .i64 0] w fun e w'=>∃p,e=.returned (.tuple #[p,.int .i64 0])/\dA 134 w' w.heap.size p [y]/\Gr w w':=by
 have n:=aA d;obtain⟨b,k,c,rfl,o,-⟩:=d.at (by simp) 2 rfl;have f:=aA (I2 _ x y _ i d);go_in;go_wp2_with (first
  |(go_at_call 97;refine dK (MZ _ _ _ _) ?_)
  |(go_at_call 98;refine f.mono ?_;rintro e m ⟨t,rfl,j,a⟩)
  |(go_at_call 169;refine(TD t x y m j).mono ?_;rintro e q ⟨l,rfl,h,g⟩))
 go_ret2;exact⟨l,rfl,h.base a.size,a.trans g⟩
def gb(p:aK×aK):bF:=bC p.1++bC p.2
def jl(p:aK×aK):(gb p).length=32:=by unfold gb;rw[bV,aO,aO]
def DJ(p:aK×aK):cN (gb p)=true:=by unfold gb;simp only[iI,cZ,zH]
def JD(p:aK×aK):dD (gb p) 0 16=bC p.1:=gP _ _ _ (aO _)
def Lg(p:aK×aK):dD (gb p) 16 16=bC p.2:=by
 unfold gb;rw[eQ _ _ _ _ 16 (aO _) (aU _),b_ _ _ (aO _)]
@[go_sem ↓ high] def aeI (w:aB):Sem.run prog (zeroValue 311) w=.ok (aE (gb (aQ,aQ))) w:=by kernel_rfl
@[go_sem] def aeL:dZ prog 311 =true:=by kernel_rfl
@[go_sem] def afu:prog.cellsOf 311 =32:=by kernel_rfl
def Sy(p:aK×aK):(prog.info? 311).map (fun x=>x.size)=some (gb p).toArray.size:=by
 rw[bQ,jl];kernel_rfl
def Sn(f g:Nat->Value)(w:aB):(Instr.build 311 #[(0,aE ((List.range 16).map f)),(1,aE ((List.range 16).map g))]).run prog w=.ok (aE ((List.range 16).map f++(List.range 16).map g)) w:=by kernel_rfl
def YO(x y:aK)(w:aB):(Instr.build 311 #[(0,aE (bC x)),(1,aE (bC y))]).run prog w=.ok (aE (gb (x,y))) w:=by
 unfold gb;rw[ly,ly];exact Sn _ _ w
@[go_sem] def aeS (x y:aK) (w:aB):eG prog 311 #[(0,aE (bC x)),(1,aE (bC y))] w=.ok (.value (aE (gb (x,y)))) w:=fe (YO x y w)
def Kt.of_block{W a:aB}(h:Kt W)(b:a.heap[2]? =W.heap[2]?):Kt a:=fun i hi=>(vg b).trans (h i hi)
def Q_{P:Program}{fn:Func}{p q:Tmp}{ty ty2:TypeId}(h:fn.results=#[.cell p ty,.cell q ty2])(a:Array Value)(w:aB)(g e:Nat)(t o:TypeId)(cs b:Array Value)(fr c:Nat×Nat)(d f:TypeDesc)
  (u:a.getD p undef=bZ g) (v:a.getD q undef=bZ e) (s:w.heap[g]? =some (.cells cs t fr)) (j:w.heap[e]? =some (.cells b o c))
  (x:P.underlying ty=some d) (n:P.underlying ty2=some f) (r:(match d with| .struct _| .array _ _=>true|_=>false)=true) (i:(match f with| .struct _| .array _ _=>true|_=>false)=true) (hi:(P.info? ty).map (·.size)=some cs.size) (k:(P.info? ty2).map (·.size)=some b.size):
  (results fn a).run P w=.ok (.tuple #[.agg cs,.agg b]) w:=by
 have l:a[p]?.getD undef=bZ g:=by simpa using u
 have m:a[q]?.getD undef=bZ e:=by simpa using v
 simp[results,h,l,m,asAddr,uM w g t ty cs fr d s x r hi,uM w e o ty2 b c f j n i k]
def adh(n:Nat):bits .and .i64 (n:Int) 1=((n%2:Nat):Int):=by
 have a:(BitVec.ofInt 64 1).toNat=2^1-1:=by decide
 have b:(BitVec.ofInt 64 (n:Int)&&&BitVec.ofInt 64 1).toNat=((n:Int)%((2^64:Nat):Int)).toNat%2^1:=by
  rw[BitVec.toNat_and,BitVec.toNat_ofInt,a,F']
 show IntKind.i64.wrap ((BitVec.ofInt 64 (n:Int)&&&BitVec.ofInt 64 1).toNat:Nat)=_;rw[b,cV];omega
abbrev kU(W:aB)(a:aK):World:=((W.alloc (aC (bC a) 134)).alloc (aC (gb (aQ,aQ)) 311)).alloc (aC (bC aQ) 134)
abbrev kX(W:aB)(b:aK)(n:Nat)(a:aK):World:=((kU W b).alloc (aC (gb (aQ,aQ)) 311)).setCells (n+1+1+1) 0 (gb (a,b))
abbrev kO(W:aB)(b:aK)(n:Nat)(a:aK):World:=(kX W b n a).setCells (n+1+1+1) 0 (gb (b,a))
def Yr(l G lb:Nat)(ab:l≠lb)(ah:l≠G)(ae:G≠lb)(g c:Nat)(af:g<65536)(ag:c<16)(d f:aK)(W:aB)(hK:Kt W)(ad:2 ≠l)(U:2 ≠lb)
  (F:HB W l (bC d) 134) (B:W.heap[G]? =some (.cells #[.int .i64 (g:Int)] 3)) (T:W.heap[lb]? =some (.cells #[.int .i64 (c:Int)] 3)):
  Calls prog 242 #[aE (bC f),bZ l,bZ G,bZ lb] W fun e R=>
   e=.returned (.tuple #[aE (gb (kw g c d f)),aE (bC (ia (c+1) (kw g c d f).1 (kw g c d f).2))])/\
   HB R l (bC (ia (c+1) (kw g c d f).1 (kw g c d f).2)) 134/\R.heap[lb]? =some (.cells #[.int .i64 ((c+1:Nat):Int)] 3)/\
   W.heap.size<=R.heap.size/\(∀i,i<W.heap.size->i≠l->i≠lb->R.heap[i]? =W.heap[i]?)/\(∀h,Gr h W->h.heap.size<=l->h.heap.size<=lb->Gr h R):=by
 obtain⟨n,hn⟩:=ex W.heap.size;have HN:=aA hn;have I:=(((Gr.refl W).alloc (aC (bC f) 134)).alloc (aC (gb (aQ,aQ)) 311)).alloc (aC (bC aQ) 134);have z1:=aI F;have z2:=aI B;have z3:=aI T;have k1:=(I.block z1).trans F;have k2:=(I.block z2).trans B;have k3:=(I.block z3).trans T;have k4:HB (kU W f) n (bC f) 134:=((((Gr.refl _).alloc _).alloc _).block (by simp;omega)).trans (aY _ _ _ hn.symm)
 have k5:HB (kU W f) (n+1) (gb (aQ,aQ)) 311:=(((Gr.refl _).alloc _).block (by simp;omega)).trans (aY _ _ _ (by simp;omega))
 have k6:HB (kU W f) (n+1+1) (bC aQ) 134:=aY _ _ _ (by simp;omega)
 have kz:(kU W f).heap.size=n+1+1+1:=by simp;omega
 have r1:=aP k1 0 16 (by simp[aO]);have r2:=(bJ k1 0 16 (by simp[aO])).trans (b_ _ _ (aO d));have r3:=aP k4 0 16 (by simp[aO]);have r4:=(bJ k4 0 16 (by simp[aO])).trans (b_ _ _ (aO f));have b5:=jl (d,f);have b6:=DJ (d,f);have c2:W.cell? (aD G 0)=some (.int .i64 (g:Int)):=bH (cs:=[.int .i64 (g:Int)]) B 0;have c3:W.cell? (aD lb 0)=some (.int .i64 (c:Int)):=bH (cs:=[.int .i64 (c:Int)]) T 0;have f3:W.frozen? (aD lb 0)=false:=ee (cs:=[.int .i64 (c:Int)]) T 0
 obtain⟨s,hs⟩:=ex (g/2^c)
 have e1:(g:Int)/2^c=(s:Int):=by rw[<-hs];simp
 have H:=adh s;have b7:=jl (f,d);have b8:=DJ (f,d);have v:=aA k1;have a7:=aA k2;have q:=aA k3;have D:=aA k4;have a8:=aA k5;have a9:=aA k6;have r:=aA kz;have C:=aA I;have w:=aA (hK.gr I);have X:∀i,i<n+1+1+1->(kX W f n d).heap[i]? =(kU W f).heap[i]? :=fun i hi=>(cD (by omega) _ _ _).trans (((Gr.refl _).alloc _).block (by have:=r.out;omega))
 have w3:HB (kX W f n d) (n+1+1+1) (gb (d,f)) 311:=bO (aY _ _ _ (by have:=r.out;omega)) (by rw[jl,jl])
 have wz:(kX W f n d).heap.size=n+1+1+1+1:=by rw[kB];simp;omega
 have x2:(kX W f n d).cell? (aD G 0)=some (.int .i64 (g:Int)):=bH (cs:=[.int .i64 (g:Int)]) ((X G (by omega)).trans a7) 0;have x3:(kX W f n d).cell? (aD lb 0)=some (.int .i64 (c:Int)):=bH (cs:=[.int .i64 (c:Int)]) ((X lb (by omega)).trans q) 0;have x4:(kX W f n d).frozen? (aD lb 0)=false:=ee (cs:=[.int .i64 (c:Int)]) ((X lb (by omega)).trans q) 0;have wn:HB ((kU W f).alloc (aC (gb (aQ,aQ)) 311)) (n+1+1+1) (gb (aQ,aQ)) 311:=aY _ _ _ (by have:=r.out;omega)
 have s1:=aP wn 0 32 (by rw[jl];decide);have s2:=bE wn 0 32;have t:=aA X;have k:=aA w3;have P:=aA wz;have M:Hid (∀h,Gr h W->h.heap.size<=n->Gr h (kX W f n d)):=fun h x K=>((x.trans C).alloc _).setsOwn (b:=n+1+1+1) (by omega) _ 0;have L:=aA C;clear wn X w3 wz c2 c3 f3 C;have J:s%2=0\/s%2=1:=by omega
 rcases J with J|J
 rw[J]at H;have H:bits .and .i64 (s:Int) 1=0:=H;have n1:=aP ((cG _ (aD lb 0) (n+1+1+1) (.int .i64 ((c:Int)+1)) (by show n+1+1+1≠lb;omega)).trans k) 0 16 (by rw[jl];decide);have n2:=(bJ ((cG _ (aD lb 0) (n+1+1+1) (.int .i64 ((c:Int)+1)) (by show n+1+1+1≠lb;omega)).trans k) 0 16 (by rw[jl];decide)).trans (JD _);have n3:=aP ((cG _ (aD lb 0) (n+1+1+1) (.int .i64 ((c:Int)+1)) (by show n+1+1+1≠lb;omega)).trans k) 16 16 (by rw[jl];decide);have n4:=(bJ ((cG _ (aD lb 0) (n+1+1+1) (.int .i64 ((c:Int)+1)) (by show n+1+1+1≠lb;omega)).trans k) 16 16 (by rw[jl];decide)).trans (Lg _);have n5:=aI ((cG _ (aD lb 0) (n+1+1+1) (.int .i64 ((c:Int)+1)) (by show n+1+1+1≠lb;omega)).trans k);go_in;go_wp2_with fail;have K3:Hid (HB ((kX W f n d).setCell (aD lb 0) (.int .i64 ((c:Int)+1))) (n+1+1+1) (gb (d,f)) 311):=(cG _ (aD lb 0) (n+1+1+1) (.int .i64 ((c:Int)+1)) (by show n+1+1+1≠lb;omega)).trans k
 have E:Hid (∀i,i<n+1+1+1->i≠lb->((kX W f n d).setCell (aD lb 0) (.int .i64 ((c:Int)+1))).heap[i]? =(kU W f).heap[i]?):=fun i hi y=>(cG _ (aD lb 0) i (.int .i64 ((c:Int)+1)) y).trans (t i hi)
 have KL:Hid (((kX W f n d).setCell (aD lb 0) (.int .i64 ((c:Int)+1))).heap[lb]? =some (.cells #[.int .i64 ((c:Int)+1)] 3)):=by
  show _=_;rw[fC _ lb 0 _ _ _ ((t.out lb (by omega)).trans q.out)];simp
 have z:=aA (show ((kX W f n d).setCell (aD lb 0) (.int .i64 ((c:Int)+1))).heap.size=n+1+1+1+1 by rw[World.size_setCell];exact P)
 have KG:Hid (∀h,Gr h W->h.heap.size<=n->h.heap.size<=lb->Gr h ((kX W f n d).setCell (aD lb 0) (.int .i64 ((c:Int)+1)))):=fun h x K y=>(M h x K).setOwn y _;have KK:Hid (Kt ((kX W f n d).setCell (aD lb 0) (.int .i64 ((c:Int)+1)))):=w.of_block (E _ (by have:=w.lt;have:=r.out;omega) U);clear x2 x3 x4 n1 n2 n3 n4 n5;generalize(kX W f n d).setCell (aD lb 0) (.int .i64 ((c:Int)+1))=Y at*
 have O:=aA (show kw g c d f=(d,f) by unfold kw;rw[hs];rw[aF (by omega)])
 generalize hA:d=a at*
 generalize hB:f=b at*
 rotate_left;rw[J]at H;have H:bits .and .i64 (s:Int) 1=1:=H;have g1:=aP ((t n (by omega)).trans D) 0 16 (by simp[aO]);have g2:=(bJ ((t n (by omega)).trans D) 0 16 (by simp[aO])).trans (b_ _ _ (aO f));have g3:=aI ((t n (by omega)).trans D);have g4:=aP ((t l (by omega)).trans v) 0 16 (by simp[aO]);have g5:=(bJ ((t l (by omega)).trans v) 0 16 (by simp[aO])).trans (b_ _ _ (aO d));have g6:=aI ((t l (by omega)).trans v);have g7:=aP k 0 32 (by rw[jl];decide);have g8:=bE k 0 32;have g9:=aI k;have m:=aA (bO (cs:=gb (f,d)) k (by rw[jl,jl]));have u:Hid (∀i,i<n+1+1+1->(kO W f n d).heap[i]? =(kU W f).heap[i]?):=fun i hi=>(cD (by omega) _ _ _).trans (t i hi)
 have Q:=aA (show (kO W f n d).heap.size=n+1+1+1+1 by rw[kB];exact P)
 have N:Hid (∀h,Gr h W->h.heap.size<=n->Gr h (kO W f n d)):=fun h x K=>(M h x K).setsOwn (b:=n+1+1+1) (by omega) _ 0;have ac:=x3;replace x3:(kO W f n d).cell? (aD lb 0)=some (.int .i64 (c:Int)):=bH (cs:=[.int .i64 (c:Int)]) ((u lb (by omega)).trans q) 0;replace x4:(kO W f n d).frozen? (aD lb 0)=false:=ee (cs:=[.int .i64 (c:Int)]) ((u lb (by omega)).trans q) 0;have n1:=aP ((cG _ (aD lb 0) (n+1+1+1) (.int .i64 ((c:Int)+1)) (by show n+1+1+1≠lb;omega)).trans m) 0 16 (by rw[jl];decide);have n2:=(bJ ((cG _ (aD lb 0) (n+1+1+1) (.int .i64 ((c:Int)+1)) (by show n+1+1+1≠lb;omega)).trans m) 0 16 (by rw[jl];decide)).trans (JD _);have n3:=aP ((cG _ (aD lb 0) (n+1+1+1) (.int .i64 ((c:Int)+1)) (by show n+1+1+1≠lb;omega)).trans m) 16 16 (by rw[jl];decide);have n4:=(bJ ((cG _ (aD lb 0) (n+1+1+1) (.int .i64 ((c:Int)+1)) (by show n+1+1+1≠lb;omega)).trans m) 16 16 (by rw[jl];decide)).trans (Lg _);have n5:=aI ((cG _ (aD lb 0) (n+1+1+1) (.int .i64 ((c:Int)+1)) (by show n+1+1+1≠lb;omega)).trans m);go_in;go_wp2_with fail;have K3:Hid (HB ((kO W f n d).setCell (aD lb 0) (.int .i64 ((c:Int)+1))) (n+1+1+1) (gb (f,d)) 311):=(cG _ (aD lb 0) (n+1+1+1) (.int .i64 ((c:Int)+1)) (by show n+1+1+1≠lb;omega)).trans m
 have E:Hid (∀i,i<n+1+1+1->i≠lb->((kO W f n d).setCell (aD lb 0) (.int .i64 ((c:Int)+1))).heap[i]? =(kU W f).heap[i]?):=fun i hi y=>(cG _ (aD lb 0) i (.int .i64 ((c:Int)+1)) y).trans (u i hi)
 have KL:Hid (((kO W f n d).setCell (aD lb 0) (.int .i64 ((c:Int)+1))).heap[lb]? =some (.cells #[.int .i64 ((c:Int)+1)] 3)):=by
  show _=_;rw[fC _ lb 0 _ _ _ ((u.out lb (by omega)).trans q.out)];simp
 have z:=aA (show ((kO W f n d).setCell (aD lb 0) (.int .i64 ((c:Int)+1))).heap.size=n+1+1+1+1 by rw[World.size_setCell];exact Q)
 have KG:Hid (∀h,Gr h W->h.heap.size<=n->h.heap.size<=lb->Gr h ((kO W f n d).setCell (aD lb 0) (.int .i64 ((c:Int)+1)))):=fun h x K y=>(N h x K).setOwn y _;have KK:Hid (Kt ((kO W f n d).setCell (aD lb 0) (.int .i64 ((c:Int)+1)))):=w.of_block (E _ (by have:=w.lt;have:=r.out;omega) U);clear x2 x3 ac x4 g1 g2 g3 g4 g5 g6 g7 g8 g9 n1 n2 n3 n4 n5;generalize(kO W f n d).setCell (aD lb 0) (.int .i64 ((c:Int)+1))=Y at*
 have O:=aA (show kw g c d f=(f,d) by unfold kw;rw[hs];rw[aG J])
 generalize hB:f=a at*
 generalize hA:d=b at*
 all_goals
  replace hA:=aA hA;replace hB:=aA hB;have HJ:CG 147 #[.int .i64 ((c:Int)+1),aE (bC a),aE (bC b)] Y (aE (bC (ia (c+1) a b))):=Ji (c+1) a b Y KK;obtain⟨j,hj⟩:∃j,ia (c+1) a b=j:=⟨_,rfl⟩;rw[hj]at HJ;refine bA HJ fun p o=>?_;have V:=(o.block (by have:=z.out;omega)).trans ((E l (by omega) ab).trans v);have q2:=(o.block (by have:=z.out;omega)).trans K3;have q3:=(o.block (by have:=z.out;omega)).trans ((E (n+1) (by omega) (by omega)).trans a8);have q4:=(o.block (by have:=z.out;omega)).trans ((E (n+1+1) (by omega) (by omega)).trans a9);have t1:=aP V 0 16 (by simp[aO]);have t2:=bE V 0 16;have t3:=aI V;have t4:=aO j;have t5:=cZ j;have t6:=jl (a,b);have t7:=DJ (a,b);have S:HB (p.setCells l 0 (bC j)) l (bC j) 134:=bO V (by simp[aO])
  have Z2:HB (p.setCells l 0 (bC j)) (n+1+1+1) (gb (a,b)) 311:=(cD (by omega) _ _ _).trans q2
  have Z3:HB (p.setCells l 0 (bC j)) (n+1) (gb (aQ,aQ)) 311:=(cD (by omega) _ _ _).trans q3
  have Z4:HB (p.setCells l 0 (bC j)) (n+1+1) (bC aQ) 134:=(cD (by omega) _ _ _).trans q4
  have a1:=aP S 0 16 (by simp[aO]);have a2:=(bJ S 0 16 (by simp[aO])).trans (b_ _ _ (aO j));have a3:=aP Z2 0 32 (by rw[jl];decide);have a4:=(bJ Z2 0 32 (by rw[jl];decide)).trans (b_ _ _ (jl _));have a5:=aP Z3 0 32 (by rw[jl];decide);have a6:=bE Z3 0 32;have Y1:HB ((p.setCells l 0 (bC j)).drew.setCells (n+1) 0 (gb (a,b))) l (bC j) 134:=(cD (by omega) _ _ _).trans S
  have Z:HB ((p.setCells l 0 (bC j)).drew.setCells (n+1) 0 (gb (a,b))) (n+1+1) (bC aQ) 134:=(cD (by omega) _ _ _).trans Z4
  have d1:=aP Y1 0 16 (by simp[aO]);have d2:=(bJ Y1 0 16 (by simp[aO])).trans (b_ _ _ (aO j));have d3:=aP Z 0 16 (by simp[aO]);have d4:=bE Z 0 16;have R1:Hid (HB (((p.setCells l 0 (bC j)).drew.setCells (n+1) 0 (gb (a,b))).setCells (n+1+1) 0 (bC j)) (n+1) (gb (a,b)) 311):=(cD (by omega) _ _ _).trans (bO Z3 (by rw[jl,jl]))
  have R2:Hid (HB (((p.setCells l 0 (bC j)).drew.setCells (n+1) 0 (gb (a,b))).setCells (n+1+1) 0 (bC j)) (n+1+1) (bC j) 134):=bO Z (by simp[aO])
  have R3:Hid (∀i,i<n+1->(((p.setCells l 0 (bC j)).drew.setCells (n+1) 0 (gb (a,b))).setCells (n+1+1) 0 (bC j)).heap[i]? =(p.setCells l 0 (bC j)).heap[i]?):=fun i hi=>(cD (by omega) _ _ _).trans (cD (by omega) _ _ _)
  have R4:Hid (∀h,Gr h W->h.heap.size<=l->h.heap.size<=lb->Gr h (((p.setCells l 0 (bC j)).drew.setCells (n+1) 0 (gb (a,b))).setCells (n+1+1) 0 (bC j))):=fun h x hb y=>(((((KG h x (by omega) y).trans o).setsOwn hb _ 0).drew).setsOwn (by omega) _ 0).setsOwn (by omega) _ 0;have R5:=aA (show n<=(((p.setCells l 0 (bC j)).drew.setCells (n+1) 0 (gb (a,b))).setCells (n+1+1) 0 (bC j)).heap.size by rw[kB,kB,JS,kB];have:=o.size;have:=z.out;omega)
  have R6:Hid ((p.setCells l 0 (bC j)).heap[lb]? =some (.cells #[.int .i64 ((c:Int)+1)] 3)):=(cD (by omega) _ _ _).trans ((o.block (by have:=z.out;omega)).trans KL)
  have R7:Hid (∀i,i<n->i≠l->i≠lb->(p.setCells l 0 (bC j)).heap[i]? =W.heap[i]?):=fun i hi F B=>(cD F _ _ _).trans ((o.block (by have:=z.out;omega)).trans ((E i (by omega) B).trans (L.block (by omega))))
  have aa:=aA S;go_wp2_with fail;go_region_law (fail);all_goals
   go_wp2_with fail;refine bI (Q_ rfl _ _ (n+1) (n+1+1) _ _ _ _ _ _ _ _ rfl rfl R1 R2 underlying311 underlying134 rfl rfl (Sy _) (v8 _)) rfl ?_;obtain rfl:=hA.out;obtain rfl:=hB.out;rw[O.out];refine⟨by rw[<-hj],?_,?_,by rw[HN.out];exact R5,fun i hi F B=>(R3 i (by have:=HN.out;omega)).trans (R7 i (by have:=HN.out;omega) F B),R4⟩
   .simp only[hj];exact(R3 l (by omega)).trans aa
   .exact(R3 lb (by omega)).trans R6
def Yc(A:Nat->Nat->Act)(R:Nat->Nat->aB->Prop)(e:Exit)(a:Act)(w:aB):Prop:=match e with| .normal=>∃x m,R x m w/\a=A x m|_=>False
def QU{P:Program}{c:Code}{Q':Exit->Act->aB->Prop}{a:Act}{w:aB}(A:Nat->Nat->Act)(R:Nat->Nat->aB->Prop)(h:c.wp P (Yc A R) a w)(f:∀x m W,R x m W->Q' .normal (A x m) W):c.wp P Q' a w:=
 qM (fun e a w h=>by cases e<;>first|exact h.elim|(obtain⟨x,n,b,d⟩:=h;subst d;exact f x n w b)) h
def OC(a:Nat)(b:aK)(l:List aK)(k:Nat)(h:k<l.length):gQ a 0 b (l.take (k+1))=ia (k+1) (kw a k (gQ a 0 b (l.take k)) l[k]).1 (kw a k (gQ a 0 b (l.take k)) l[k]).2:=by
 rw[eF h,Kh,dP,tS (pz h),fB];rfl
def aaw(a:aK)(c:Nat)(W:aB):Calls prog 210 #[aE (bC a),.int .i64 (c:Int)] W fun e f=>
  e=.returned (.func (.func 242) #[] #[bZ (W.heap.size+2),bZ (W.heap.size+1),bZ (W.heap.size+3)])/\
  f.heap[W.heap.size+1]? =some (.cells #[.int .i64 (c:Int)] 3)/\HB f (W.heap.size+2) (bC a) 134/\f.heap[W.heap.size+3]? =some (.cells #[.int .i64 0] 3)/\Gr W f:=by
 obtain⟨n,s⟩:=ex W.heap.size;have d:=aA s;have t:=aO a;have u:=cZ a;have i:Gr W ((((W.alloc (aC (bC a) 134)).alloc (.cells #[.int .i64 (c:Int)] 3)).alloc (aC (bC aQ) 134)).alloc (.cells #[.int .i64 0] 3)):=((((Gr.refl W).alloc _).alloc _).alloc _).alloc _;have j:((((W.alloc (aC (bC a) 134)).alloc (.cells #[.int .i64 (c:Int)] 3)).alloc (aC (bC aQ) 134)).alloc (.cells #[.int .i64 0] 3)).heap[n+1]? =some (.cells #[.int .i64 (c:Int)] 3):=((((Gr.refl _).alloc _).alloc _).block (by simp;omega)).trans (aY _ _ _ (by simp;omega))
 have g:HB ((((W.alloc (aC (bC a) 134)).alloc (.cells #[.int .i64 (c:Int)] 3)).alloc (aC (bC aQ) 134)).alloc (.cells #[.int .i64 0] 3)) (n+1+1) (bC aQ) 134:=(((Gr.refl _).alloc _).block (by simp;omega)).trans (aY _ _ _ (by simp;omega))
 have k:((((W.alloc (aC (bC a) 134)).alloc (.cells #[.int .i64 (c:Int)] 3)).alloc (aC (bC aQ) 134)).alloc (.cells #[.int .i64 0] 3)).heap[n+1+1+1]? =some (.cells #[.int .i64 0] 3):=aY _ _ _ (by simp;omega)
 have l:(((((W.alloc (aC (bC a) 134)).alloc (.cells #[.int .i64 (c:Int)] 3)).alloc (aC (bC aQ) 134)).alloc (.cells #[.int .i64 0] 3)).setCells (n+1+1) 0 (bC a)).heap[n+1]? =some (.cells #[.int .i64 (c:Int)] 3):=(cD (by omega) _ _ _).trans j
 have m:HB (((((W.alloc (aC (bC a) 134)).alloc (.cells #[.int .i64 (c:Int)] 3)).alloc (aC (bC aQ) 134)).alloc (.cells #[.int .i64 0] 3)).setCells (n+1+1) 0 (bC a)) (n+1+1) (bC a) 134:=bO g (by simp[aO])
 have h:(((((W.alloc (aC (bC a) 134)).alloc (.cells #[.int .i64 (c:Int)] 3)).alloc (aC (bC aQ) 134)).alloc (.cells #[.int .i64 0] 3)).setCells (n+1+1) 0 (bC a)).heap[n+1+1+1]? =some (.cells #[.int .i64 0] 3):=(cD (by omega) _ _ _).trans k
 have x:(((((W.alloc (aC (bC a) 134)).alloc (.cells #[.int .i64 (c:Int)] 3)).alloc (aC (bC aQ) 134)).alloc (.cells #[.int .i64 0] 3)).setCells (n+1+1) 0 (bC a)).cell? (aD (n+1+1+1) 0)=some (.int .i64 0):=bH (cs:=[.int .i64 0]) h 0;have y:(((((W.alloc (aC (bC a) 134)).alloc (.cells #[.int .i64 (c:Int)] 3)).alloc (aC (bC aQ) 134)).alloc (.cells #[.int .i64 0] 3)).setCells (n+1+1) 0 (bC a)).frozen? (aD (n+1+1+1) 0)=false:=ee (cs:=[.int .i64 0]) h 0;have v:=aP g 0 16 (by simp[aO]);have w:=bE g 0 16;have o:Hid (Gr W (((((W.alloc (aC (bC a) 134)).alloc (.cells #[.int .i64 (c:Int)] 3)).alloc (aC (bC aQ) 134)).alloc (.cells #[.int .i64 0] 3)).setCells (n+1+1) 0 (bC a))):=i.setsOwn (b:=n+1+1) (by omega) _ 0;have p:=aA l;have q:=aA m;have r:=aA h;go_in;go_wp2_with fail;generalize((((W.alloc (aC (bC a) 134)).alloc (.cells #[.int .i64 (c:Int)] 3)).alloc (aC (bC aQ) 134)).alloc (.cells #[.int .i64 0] 3)).setCells (n+1+1) 0 (bC a)=X at*
 go_ret;refine⟨by rw[d.out];rfl,?_,?_,?_,o.setOwn (by omega) _⟩
 .rw[d.out];exact(cG _ (aD (n+1+1+1) 0) (n+1) _ (by show n+1≠n+1+1+1;omega)).trans p
 .rw[d.out];exact(cG _ (aD (n+1+1+1) 0) (n+2) _ (by show n+2≠n+1+1+1;omega)).trans q
 .rw[d.out]
  show(X.setCell (aD (n+1+1+1) 0) (.int .i64 0)).heap[n+1+1+1]? =_
  rw[fC _ (n+1+1+1) 0 _ _ _ r.out];simp
def PN(a:aK)(d:Nat)(v:Value)(l:List aK)(a6:l≠[])(hl:l.length<=8)(B:d<2^l.length)(w:World)(hK:Kt w)(hv:dM w v l):
  Calls prog 179 #[.agg (bC a).toArray,.int .i64 (d:Int),v] w (RG w (.tuple #[.agg (bC (gQ d 0 a l)).toArray,.int .i64 0])):=by
 obtain⟨n,hn⟩:=ex w.heap.size;have J:=aA hn;obtain⟨N,hN⟩:=ex l.length;rw[hN]at hl B;obtain⟨b,k,c,rfl,hc,F⟩:=hv.at a6 N hN;have HJ:=aA F;have K:=aA hN;have eg:∀args w,(callFunc 242 args).run prog w=.ok (.enter 242 args) w:=lV func242 (by kernel_rfl) rfl;have HK:=aA hK;have n1:¬10<(N:Int):=by omega
 have i1:=nn d
 have i2:(N:Int)<=63:=by omega
 have ac:d<256:=dQ B (nR (by decide) hl);have z:wrap64 ((2:Int)^N)=((2^N:Nat):Int):=by
  have h:∀N:Fin 9,wrap64 ((2:Int)^N.val)=((2^N.val:Nat):Int):=by decide+kernel
  exact h ⟨N,by omega⟩
 have i3:(d:Int)<wrap64 ((2:Int)^N):=by rw[z];exact_mod_cast B
 clear F hN hv hK z;have b1:=aO a;have b2:=cZ a;have HB:Hid (((w.alloc (aC (bC a) 134)).alloc (aC (bC aQ) 134)).heap[n]? =some (aC (bC a) 134)):=(((Gr.refl _).alloc _).block (by simp;omega)).trans (aY _ _ _ hn.symm)
 have HZ:Hid (((w.alloc (aC (bC a) 134)).alloc (aC (bC aQ) 134)).heap[n+1]? =some (aC (bC aQ) 134)):=aY _ _ _ (by simp;omega)
 have HG:Hid (Gr w ((w.alloc (aC (bC a) 134)).alloc (aC (bC aQ) 134))):=((Gr.refl w).alloc _).alloc _;go_in;go_wp2_with fail;try simp only[hn]
 generalize(w.alloc (aC (bC a) 134)).alloc (aC (bC aQ) 134)=U0 at*
 clear hn
 have O:Hid (∀W,Gr U0 W->hasRow W ⟨n,0,none⟩ 16=true/\rowAt W ⟨n,0,none⟩ 16=bC a/\n<W.heap.size):=fun W hW=>by
  have hh:=(hW.block (aI HB)).trans HB;exact⟨aP hh 0 16 (by simp[aO]),(bJ hh 0 16 (by simp[aO])).trans (b_ _ _ (aO a)),aI hh⟩
 obtain⟨r1,r2,r3⟩:=O.out U0 (Gr.refl U0);obtain⟨r4,r5,r6⟩:=O.out _ ((Gr.refl U0).alloc (aC (bC aQ) 134));apply QU (R:=fun x m P=>Hid (P.heap[x]? =some (aC (bC a) 134))/\Hid (P.heap[m+1]? =some (.cells #[.int .i64 (d:Int)] 3))/\Hid (P.heap[m+2]? =some (aC (bC a) 134))/\Hid (P.heap[m+3]? =some (.cells #[.int .i64 0] 3))/\Hid (Gr U0 P)/\Hid (n+2<=x/\n+2<=m/\(x<m\/m+3<x)))
 case h=>
  go_region_law (first
   |(go_simp;go_at_call 210;refine(aaw a d _).mono ?_;rintro e f ⟨rfl,p,s,o,u⟩;have G1:Gr U0 f:=(by first|exact(Gr.refl U0).drew.trans u|exact((Gr.refl U0).alloc _).drew.trans u|exact((Gr.refl U0).drew.alloc _).trans u);obtain⟨s1,s2,s3⟩:=O.out f G1;obtain⟨s4,s5,s6⟩:=O.out _ (G1.alloc (aC (bC aQ) 134));
     first
      |(have t:f.heap[U0.heap.size]? =some (aC (bC aQ) 134):=(u.block (by simp)).trans (cM U0 _);have t1:=aP t 0 16 (by simp[aO]);have t2:=bE t 0 16;have t3:=aI t)
      |(have t:(f.alloc (aC (bC aQ) 134)).heap[f.heap.size]? =some (aC (bC aQ) 134):=cM f _;have t1:=aP t 0 16 (by simp[aO]);have t2:=bE t 0 16;have t3:=aI t)))
  all_goals
   have ad:n+2<=U0.heap.size:=aI HZ;simp only[yC,JS]at p s o t;first
    |(obtain⟨m,T⟩:∃m,U0.heap.size+1=m:=⟨_,rfl⟩
      rw[T]at p s o;obtain⟨x,hx⟩:=ex U0.heap.size;have hR:Hid ((f.setCells x 0 (bC a)).heap[x]? =some (aC (bC a) 134))/\Hid ((f.setCells x 0 (bC a)).heap[m+1]? =some (.cells #[.int .i64 (d:Int)] 3))/\Hid ((f.setCells x 0 (bC a)).heap[m+2]? =some (aC (bC a) 134))/\Hid ((f.setCells x 0 (bC a)).heap[m+3]? =some (.cells #[.int .i64 0] 3))/\Hid (Gr U0 (f.setCells x 0 (bC a)))/\Hid (n+2<=x/\n+2<=m/\(x<m\/m+3<x)):=
       ⟨bO (hx▸t) (by simp[aO]),(cD (by omega) _ _ _).trans p,(cD (by omega) _ _ _).trans s,(cD (by omega) _ _ _).trans o,G1.setsOwn (by omega) _ 0,⟨by omega,by omega,by omega⟩⟩
      rw[T,hx];exact⟨x,m,hR,rfl⟩)
    |(obtain⟨m,T⟩:∃m,U0.heap.size=m:=⟨_,rfl⟩
      rw[T]at p s o;obtain⟨x,hx⟩:=ex f.heap.size;have aa:=aI o;have hR:Hid ((f.alloc (aC (bC a) 134)).heap[x]? =some (aC (bC a) 134))/\Hid ((f.alloc (aC (bC a) 134)).heap[m+1]? =some (.cells #[.int .i64 (d:Int)] 3))/\Hid ((f.alloc (aC (bC a) 134)).heap[m+2]? =some (aC (bC a) 134))/\Hid ((f.alloc (aC (bC a) 134)).heap[m+3]? =some (.cells #[.int .i64 0] 3))/\Hid (Gr U0 (f.alloc (aC (bC a) 134)))/\Hid (n+2<=x/\n+2<=m/\(x<m\/m+3<x)):=
       ⟨aY _ _ _ hx.symm,(((Gr.refl f).alloc _).block (by omega)).trans p,(((Gr.refl f).alloc _).block (by omega)).trans s,(((Gr.refl f).alloc _).block (by omega)).trans o,G1.alloc _,⟨by omega,by omega,by omega⟩⟩
      simp only[T,hx];exact⟨x,m,hR,rfl⟩)
    |trace_state
 rintro X M W1 ⟨k0,k1,k2,k3,kg,kb⟩;have a5:=aA ((kg.block (aI HZ)).trans HZ);have a3:=aA (HG.trans kg);have H:=aA (show 2 <n by have:=HK.lt;have:=J.out;omega)
 have HT:Hid (∀q (h:q<l.length),gQ d 0 a (l.take (q+1))=ia (q+1) (kw d q (gQ d 0 a (l.take q)) l[q]).1 (kw d q (gQ d 0 a (l.take q)) l[q]).2):=OC d a l;clear O r1 r2 r3 r4 r5 r6;go_wp2_with fail
 go_loopw [32] (fun i wr=>∃q:Nat,q<=N/\i=.int .i64 (q:Int)/\Hid (wr.heap[X]? =some (aC (bC (gQ d 0 a (l.take q))) 134))/\Hid (wr.heap[M+1]? =some (.cells #[.int .i64 (d:Int)] 3))/\Hid (wr.heap[M+2]? =some (aC (bC (gQ d 0 a (l.take q))) 134))/\Hid (wr.heap[M+3]? =some (.cells #[.int .i64 (q:Int)] 3))/\Hid (wr.heap[n+1]? =some (aC (bC aQ) 134))/\Hid (Gr w wr)) (fun i _=>N-(intOf i).toNat)
 .exact⟨0,bW _,rfl,k0,k1,k2,k3,a5,a3⟩
 .
  obtain⟨q,hq,rfl,E,h1,h2,h3,S,hG⟩:=hrel;by_cases ab:q<N
  .have a8:(q:Int)<(N:Int):=by omega
   have a9:=nn q
   have V:q<l.length:=by have:=K.out;omega
   have Q:=HT q V;have d0:=(HJ q _ (cO V)).gr hG;generalize l[q]=x at*
   have y1:=d0.h;have y2:=d0.r;have b3:=aO x;have b4:=cZ x;generalize a7:gQ d 0 a (l.take q)=nd at*
   have g:=(Gr.refl wr).alloc (aC (bC x) 134);have D:=cM wr (aC (bC x) 134);have y4:=aP D 0 16 (by simp[aO]);have y5:=(bJ D 0 16 (by simp[aO])).trans (b_ _ _ (aO x));have G:=Yr (M+2) (M+1) (M+3) (by omega) (by omega) (by omega) d q (by omega) (by omega) nd x _ (HK.gr (hG.trans g)) (by have:=H.out;have:=kb.out;omega) (by have:=H.out;have:=kb.out;omega) ((g.block (aI h2)).trans h2) ((g.block (aI h1)).trans h1) ((g.block (aI h3)).trans h3);rw[<-Q]at G;obtain⟨pr,U⟩:=ex (kw d q nd x);rw[U]at G;obtain⟨j,F⟩:=ex (gQ d 0 a (l.take (q+1)));rw[F]at G;have I:=aA F;have b5:=aO j;have b6:=cZ j;have V0:=aA ((g.block (aI E)).trans E);have V1:=aA ((g.block (aI h1)).trans h1);have VZ:=aA ((g.block (aI S)).trans S);have VG:=aA (hG.trans g);have l0:=aI V0;have l1:=aI V1;have lz:=aI VZ;have HL:=aA (km l0 (km l1 lz));clear g D F U Q a7 d0 l0 l1 lz;go_wp2_with (go_at_call 242;refine G.mono ?_;clear G;rintro e w2 ⟨rfl,Y,Z,a1,C,a2⟩;have p0:=(C X HL.1 (by have:=kb.out;omega) (by have:=kb.out;omega)).trans V0;have q0:=aP p0 0 16 (by simp[aO]);have q1:=bE p0 0 16;have q2:=aI p0;have HP:=aA p0;have L:=aA (km Y (km Z (km a1 (km C a2))));clear p0 Y Z a1 C a2);go_roundw
   .
    have ae:=kb.out;refine⟨q+1,by omega,by go_num,?_,?_,?_,?_,?_,?_⟩
    .show Hid _
     rw[I.out];exact bO HP (by simp[aO])
    .exact(cD (by omega) _ _ _).trans ((L.2.2.2.1 _ HL.2.1 (by omega) (by omega)).trans V1)
    .show Hid _
     rw[I.out];exact(cD (by omega) _ _ _).trans L.1
    .exact(cD (by omega) _ _ _).trans L.2.1
    .exact(cD (by omega) _ _ _).trans ((L.2.2.2.1 _ HL.2.2 (by omega) (by omega)).trans VZ)
    .exact(L.2.2.2.2 w VG (by have:=J.out;omega) (by have:=J.out;omega)).setsOwn (b:=X) (by have:=J.out;omega) (bC j) 0
   .simp[intOf];omega
  .obtain rfl:q=N:=by omega
   have e9:l.take q=l:=by rw[<-K.out,jS]
   rw[e9]at E h2;obtain⟨y,hy⟩:=ex (gQ d 0 a l);rw[hy]at E h2;have z0:=aP E 0 16 (by simp[aO]);have z1:=(bJ E 0 16 (by simp[aO])).trans (b_ _ _ (aO y));have z3:=aP S 0 16 (by simp[aO]);have z4:=bE S 0 16;have b3:=aO y;have b4:=cZ y;go_wp2_with fail;have HE:Hid ((wr.setCells (n+1) 0 (bC y)).heap[n+1]? =some (aC (bC y) 134)):=bO S (by simp[aO])
   have a4:=aA (hG.setsOwn (b:=n+1) (by have:=J.out;omega) (bC y) 0);refine bI (jA rfl _ _ (n+1) _ _ _ _ rfl HE underlying134 rfl (v8 _)) rfl ?_;exact⟨by rw[<-hy];rfl,a4⟩
end Go.Proofs.YtjfaogajmoffoaaGreatDoor
