/- Lemmas for VerifyStatus. -/
import Derived.ProofKit
import Derived.OpenShut
import Derived.Deep.Slices
import Derived.Test.YtjfaogajmoffoaaGreatDoorQPA20
set_option maxRecDepth 100000
set_option maxHeartbeats 16000000
set_option linter.all false
namespace Go.Proofs.YtjfaogajmoffoaaGreatDoor
open Go.RowKit Tryz
section
open Go.ChangeShapes Go.WideShapes Go.ChangeAt Go.RowKit
theorem kx(cs:bF)(k n:Nat):cs.drop k=dD cs k n++cs.drop (k+n):=by
 unfold dD;rw[<-nD,lq]
theorem Ih:∀cs:bF,(∀u∈cs,∃b:UInt8,u=.int .u8 (b.toNat:Int))->∃l:aM,cs=l.map fun b=>.int .u8 (b.toNat:Int)
 |[],_=>⟨[],rfl⟩
 |u::cs,h=>by
  obtain⟨b,rfl⟩:=h u (by simp);obtain⟨l,rfl⟩:=Ih cs (fun x a=>h x (by simp[a]));exact⟨b::l,rfl⟩
theorem Fm{c:Type}{p:Nat->c->Prop}:∀n:Nat,(∀i,i<n->∃a,p i a)->∃l:List c,l.length=n/\∀i (h:i<l.length),p i l[i]
 |0,_=>⟨[],rfl,fun i h=>by simp at h⟩
 |n+1,h=>by
  obtain⟨l,b,f⟩:=Fm n (fun i hi=>h i (by omega));obtain⟨a,d⟩:=h n (by omega);refine⟨l++[a],by simp[b],fun i hi=>?_⟩;simp only[bV,jN]at hi;by_cases e:i<l.length
  .rw[List.getElem_append_left e];exact f i e
  .obtain rfl:i=l.length:=by omega
   rw[IZ rfl,b];exact d
theorem Nz{cs:bF}(e:Nat->aK)(N:Nat)(a:cs.length=N*16)(h:∀i,i<N->dD cs (i*16) 16=bC (e i)):∀n m,m+n=N->cs.drop (m*16)=kc m n e
 |0,m,hm=>by
  rw[jn (by omega)];rfl
 |n+1,m,hm=>by
  rw[Cf,kx cs (m*16) 16,h m (by omega),show m*16+16=(m+1)*16 from by omega,Nz e N a h n (m+1) (by omega)]
theorem Mp:reachBytes=140737488351232:=by decide+kernel
def Lw{H:Type}(t:TypeId)(d:DataW H):Prop:=∀n∈d.weights prog t,n<=140737488351232
theorem KU{H:Type}{P:Program}{e:TypeId}{d:DataW H}{k:Nat}(a:k∈d.weights P e):∀l:List (DataW H),d∈l->k∈DataW.weightsAll P e l
 |[],h=>by cases h
 |x::l,h=>by
  simp only[DataW.weightsAll,mf];rcases pc.1 h with b|c
  .subst b;exact .inl a
  .exact .inr (KU a l c)
section
variable {H : Type} {enc : TypeId × Value -> H} {W : World} {base : Nat} {sp : Nat -> Bool} {held : Bool}
theorem wH{n:Nat}{t:TypeId}(k:prog.underlying t=some (.array n 5))(g:prog.cellsOf t=n){b:Nat}{cs:bF}{x:DataW H×List MemPlace}
  (j:DataW.trod enc prog W base sp held b t cs=some x):∃v:Vector UInt8 n,cs=bC v:=by
 obtain⟨r,m,_,_,a,p,hi⟩:=DataW.trod_array k j;rw[g]at a
 obtain⟨l,rfl⟩:=Ih cs (fun u d=>by
  obtain⟨i,c,rfl⟩:=pD d;have h:=hi i (by omega);rw[cellsByte,ld,kR c,gR,fy,cO (by omega)]at h;obtain⟨z,f,_,o⟩:=uY underlying5 h;have q:=bounds_u8 o;refine⟨UInt8.ofNat z.toNat,?_⟩;simp only[za,xd]at f;have e:((UInt8.ofNat z.toNat).toNat:Int)=z:=by simp;omega
  rw[f,e])
 rw[cL]at a;exact⟨⟨l.toArray,by simpa using a⟩,by simp[bC]⟩
theorem kW{t:TypeId}{l:Array Field}(o:prog.underlying t=some (.struct l)){a:Nat}{cs:bF}{x:DataW H×List MemPlace}
  (u:DataW.trod enc prog W base sp held a t cs=some x) (z:Lw t x.1) (i:Nat) (f:Field) (hi:l[i]? =some f) (e:TypeId) (c p:Nat) (m:f.type=e) (r:f.offset=c) (s:prog.cellsOf e=p):
  ∃n y,DataW.trod enc prog W base sp held n e (dD cs c p)=some y/\Lw e y.1:=by
 obtain⟨q,n,_,B,_,g,v⟩:=DataW.trod_struct o u;have h:=v i f hi;have b:i<q.length:=by rw[g];exact(bY.1 hi).1
 rw[m,r,s,cO b]at h;refine⟨n,_,h,fun k w=>z k ?_⟩;subst B;simp only[DataW.weights,o];exact DataW.weights_mem_each (j:=i) (t:=e) (d:=q[i].1) (by rw[fo,tv,hi,jm,m]) (by rw[fo,cO b];rfl) k w
theorem FT{t:TypeId}{b:Array Field}(e:prog.underlying t=some (.struct b)){a:Nat}{cs:bF}{x:DataW H×List MemPlace}
  (c:DataW.trod enc prog W base sp held a t cs=some x):cs.length=prog.cellsOf t:=by
 obtain⟨f,n,_,_,d,_,_⟩:=DataW.trod_struct e c;exact d
theorem yJ:prog.cellsOf 3 =1:=by kernel_rfl
theorem vH:prog.cellsOf 9 =1:=by kernel_rfl
theorem Oi:prog.cellsOf 23 =1:=by kernel_rfl
theorem Zu:prog.cellsOf 24 =1:=by kernel_rfl
theorem Vi:prog.cellsOf 30 =1:=by kernel_rfl
theorem GG:prog.cellsOf 29 =560:=by kernel_rfl
theorem IK:prog.cellsOf 32 =562:=by kernel_rfl
theorem SJ{a:Addr}{v:Value}(h:W.cell? a=some v):a.spot=none:=World.cell?_spot h
theorem wA{a:Nat}{cs:bF}{x:DataW H×List MemPlace}(b:DataW.trod enc prog W base sp held a 9 cs=some x)(d:Lw 9 x.1):∃s:aJ,cs=[.string s]/\s.size<=140737488351232:=by
 obtain⟨s,c,e,_⟩:=DataW.trod_string underlying9 b;refine⟨s,c,?_⟩;subst e;have:=d s.data.toList.length (by simp[DataW.weights]);simpa using this
theorem y_{t e:TypeId}{size:Nat}(T:0<size)(Y:prog.cellsOf e=size){E:Type}(F:E->bF)(f:E->Prop)
  (K:∀n h (y:DataW H×List MemPlace),DataW.trod enc prog W base sp held n e h=some y->Lw e y.1->∃a:E,h=F a/\f a)
  (U:prog.underlying t=some (.slice e)) {s:Nat} {cs:bF} {x:DataW H×List MemPlace} (Z:DataW.trod enc prog W base sp held s t cs=some x) (hw:Lw t x.1):
  ∃(v:Value) (l:List E),cs=[v]/\bX W v size (l.map F)/\(∀a∈l,f a)/\l.length<=9223372036854775807:=by
 rcases Go.Deep.open_slice U Z with⟨o,_⟩|⟨a,r,I,m,n,D,Pl,o,_,hl,hm,M,hx,hi⟩
 .exact⟨_,[],o,⟨none,0,rfl,aU _,fun j G=>by simp at G⟩,by simp,by simp⟩
 .have a2:r<=m:=by rw[M];split<;>omega
  unfold maxLen at hm;rw[Y]at hi;subst hx
  have P:∀i,i<r->Lw e (D i):=fun i g k hk=>hw k (by
   simp only[DataW.weights,U,pc,mf];exact .inr (.inl (KU hk _ (iQ.2 ⟨i,pS.2 g,rfl⟩))))
  obtain⟨l,w,N⟩:=Fm (p:=fun i (z:E)=>W.cells? base (a.add (i*size)) size=some (F z)/\f z) r (fun i g=>by
   obtain⟨h,h1,V⟩:=hi i (by omega);obtain⟨z,Q,L⟩:=K n h _ V (P i g);exact⟨z,by rw[h1,Q],L⟩)
  refine⟨_,l,o,⟨some a,I,by rw[cL,w],by rw[cL,w];exact hl,fun j G=>?_⟩,fun z Q=>?_,by omega⟩
  .rw[cL]at G
   obtain⟨h1,_⟩:=N j G;obtain⟨_,S,b⟩:=World.cells?_some h1;obtain⟨blk,B,C⟩:=a;have q:C=none:=by
    obtain⟨k1,_⟩:=N 0 (by omega);obtain⟨_,a1,J⟩:=World.cells?_some k1;have R:=SJ ((J 0 T).trans (cO (by omega)));rw[rx]at R;exact R
   subst q;rw[fO]at b;have c:∀i,i<size->∃u,W.cell? (((aD blk (B+j*size)):Addr).add i)=some u:=fun i d=>⟨_,(b i d).trans (cO (by omega))⟩;refine⟨blk,B,rfl,?_,?_,?_⟩
   .obtain⟨u,O⟩:=c 0 T
    have X:=ka W _ O;rwa[sZ]at X
   .rw[kr];intro i d;obtain⟨u,O⟩:=c i d;rw[O];rfl
   .rw[ig]
    apply rD;intro i;rw[rowAt,fo];by_cases d:i<size
    .rw[qf d,jm,b i d,cO (by omega)];rfl
    .rw[kZ (by simp;omega),kZ (by omega)];rfl
  .obtain⟨i,g,rfl⟩:=pD Q
   exact(N i g).2
theorem Pz{d:Nat}{cs:bF}{x:DataW H×List MemPlace}(z:DataW.trod enc prog W base sp held d 23 cs=some x)(D:Lw 23 x.1):∃v g,cs=[v]/\oT W v g/\(∀s∈g,s.size<=140737488351232)/\g.length<=9223372036854775807:=by
 obtain⟨v,l,i,⟨a,c,m,p,C⟩,B,E⟩:=y_ (aH rfl) vH (fun s:ByteArray=>[Value.string s]) (fun s=>s.size<=140737488351232) (fun n q y h o=>wA h o) underlying23 z D;rw[cL]at p m;refine⟨v,l,i,⟨⟨a,c,m,fun j h=>?_⟩,a,c,m,p⟩,B,E⟩;obtain⟨b,k,t,w,r,e⟩:=C j (by simpa using h);refine⟨b,k,t,w,?_⟩;obtain⟨u,f⟩:=xG.1 (kr.1 r 0 (aH rfl));rw[ig]at e;simp only[ld]at f e;rw[fO,ms]at f;simp only[rowAt,FK,gt,nI,fO,ms,f,nj,za,xd]at e;rw[f,e]
theorem W8{a:Nat}{cs:bF}{x:DataW H×List MemPlace}(f:DataW.trod enc prog W base sp held a 24 cs=some x)(i:Lw 24 x.1):∃v l,cs=[v]/\nX W v l/\l.length<=9223372036854775807:=by
 obtain⟨v,l,b,d,_,e⟩:=y_ (aH rfl) vu (fun s:Id=>bC s) (fun _=>True) (fun n c y h _=>by
  obtain⟨s,g⟩:=wH underlying26 vu h;exact⟨s,g,eV⟩) underlying24 f i
 exact⟨v,l,b,d,e⟩
theorem QD{a:Nat}{cs:bF}{x:DataW H×List MemPlace}(f:DataW.trod enc prog W base sp held a 30 cs=some x)(i:Lw 30 x.1):∃v l,cs=[v]/\dM W v l/\l.length<=9223372036854775807:=by
 obtain⟨v,l,b,d,_,e⟩:=y_ (aH rfl) ru (fun s:aK=>bC s) (fun _=>True) (fun n c y h _=>by
  obtain⟨s,g⟩:=wH underlying22 ru h;exact⟨s,g,eV⟩) underlying30 f i
 exact⟨v,l,b,d,e⟩
theorem Rf{b:Nat}{cs:bF}{x:DataW H×List MemPlace}(d:DataW.trod enc prog W base sp held b 29 cs=some x):∃e:Nat->aK,cs=cB e:=by
 obtain⟨k,m,_,_,a,j,hi⟩:=DataW.trod_array underlying29 d;rw[GG]at a;rw[ru]at hi
 obtain⟨l,f,g⟩:=Fm (p:=fun i (z:aK)=>dD cs (i*16) 16=bC z) 35 (fun i c=>by
  have h:=hi i c;rw[cO (by omega)]at h;exact wH underlying22 ru h)
 refine⟨fun i=>l.getD i aQ,?_⟩
 have:=Nz (cs:=cs) (fun i=>l.getD i aQ) 35 a (fun i c=>by
  rw[g i (by omega)];show bC l[i]=bC (l.getD i aQ);rw[eD,cO (by omega)];rfl) 35 0 rfl
 simpa[cB]using this
structure Sx where
 k:bU
 gs:List ByteArray
 rs:List Id
 g:Sg
 pv:Value
 hn:me k.number
def gI(x:Sx):bF:=dE x.k (aW x.g.leaf x.g.chains x.pv)
structure wu(W:aB)(k:bU)(gs:bP)(rs:List Id):Prop where
 c:fF W k gs rs
 n:me k.number
 d:me k.date
 l:me k.leaf
 z1:k.name.size<=140737488351232
 z2:k.subject.size<=140737488351232
 z3:k.control.size<=140737488351232
 z4:k.dist.size<=140737488351232
 z5:k.body.size<=140737488351232
 zg:∀s∈gs,s.size<=140737488351232
 lg:gs.length<=9223372036854775807
 lr:rs.length<=9223372036854775807
structure nw(W:aB)(x:Sx):Prop where
 c:wu W x.k x.gs x.rs
 p:dM W x.pv x.g.path
 lp:x.g.path.length<=9223372036854775807
theorem Og{c:Nat}{cs:bF}{x:DataW H×List MemPlace}(a:DataW.trod enc prog W base sp held c 28 cs=some x)(b:Lw 28 x.1):∃(k:bU) (l:bP) (rs:List Id),cs=aX k/\wu W k l rs:=by
 have hl:=(FT underlying28 a).trans JZ;obtain⟨_,_,V,w0⟩:=kW underlying28 a b 0 _ rfl 9 0 1 rfl rfl vH;obtain⟨_,_,X,w1⟩:=kW underlying28 a b 1 _ rfl 22 1 16 rfl rfl ru;obtain⟨_,_,Y,w2⟩:=kW underlying28 a b 2 _ rfl 3 17 1 rfl rfl yJ;obtain⟨_,_,Z,w3⟩:=kW underlying28 a b 3 _ rfl 23 18 1 rfl rfl Oi;obtain⟨_,_,h4,w4⟩:=kW underlying28 a b 4 _ rfl 9 19 1 rfl rfl vH;obtain⟨_,_,h5,w5⟩:=kW underlying28 a b 5 _ rfl 24 20 1 rfl rfl Zu;obtain⟨_,_,h6,w6⟩:=kW underlying28 a b 6 _ rfl 26 21 32 rfl rfl vu;obtain⟨_,_,h7,w7⟩:=kW underlying28 a b 7 _ rfl 9 53 1 rfl rfl vH;obtain⟨_,_,h8,w8⟩:=kW underlying28 a b 8 _ rfl 9 54 1 rfl rfl vH;obtain⟨_,_,h9,w9⟩:=kW underlying28 a b 9 _ rfl 3 55 1 rfl rfl yJ;obtain⟨_,_,m,a1⟩:=kW underlying28 a b 10 _ rfl 3 56 1 rfl rfl yJ;obtain⟨_,_,n,a2⟩:=kW underlying28 a b 11 _ rfl 22 57 16 rfl rfl ru;obtain⟨_,_,o,a3⟩:=kW underlying28 a b 12 _ rfl 3 73 1 rfl rfl yJ;obtain⟨_,_,p,z⟩:=kW underlying28 a b 13 _ rfl 9 74 1 rfl rfl vH;obtain⟨x0,L,z0⟩:=wA V w0;obtain⟨x1,M⟩:=wH underlying22 ru X;obtain⟨x2,N,_,J⟩:=uY underlying3 Y;obtain⟨x3,l,O,r,s,q⟩:=Pz Z w3;obtain⟨x4,P,z4⟩:=wA h4 w4;obtain⟨x5,rs,Q,u,t⟩:=W8 h5 w5;obtain⟨x6,R⟩:=wH underlying26 vu h6;obtain⟨x7,S,z7⟩:=wA h7 w7;obtain⟨x8,T,z8⟩:=wA h8 w8;obtain⟨x9,U,_,K⟩:=uY underlying3 h9;obtain⟨B,f,_,I⟩:=uY underlying3 m;obtain⟨C,g⟩:=wH underlying22 ru n;obtain⟨D,h,_,e⟩:=uY underlying3 o;obtain⟨E,j,F⟩:=wA p z;refine⟨⟨x0,x1,x2,x3,x4,x5,x6,x7,x8,x9,B,C,D,E⟩,l,rs,?_,⟨⟨r,u⟩,bounds_i64 K,bounds_i64 J,bounds_i64 e,z0,z4,z7,z8,F,s,q,t⟩⟩;have G:=kx cs 0 1;have s1:=kx cs 1 16;have s2:=kx cs 17 1;have s3:=kx cs 18 1;have s4:=kx cs 19 1;have s5:=kx cs 20 1;have s6:=kx cs 21 32;have s7:=kx cs 53 1;have s8:=kx cs 54 1;have s9:=kx cs 55 1;have v:=kx cs 56 1;have w:=kx cs 57 16;have y:=kx cs 73 1;have d:=kx cs 74 1;rw[jn (i:=74+1) (by omega)]at d;rw[L,show 0+1=1 from rfl,s1,M,show 1+16=17 from rfl,s2,N,show 17+1=18 from rfl,s3,O,show 18+1=19 from rfl,s4,P,show 19+1=20 from rfl,s5,Q,show 20+1=21 from rfl,s6,R,show 21+32=53 from rfl,s7,S,show 53+1=54 from rfl,s8,T,show 54+1=55 from rfl,s9,U,show 55+1=56 from rfl,v,f,show 56+1=57 from rfl,w,g,show 57+16=73 from rfl,y,h,show 73+1=74 from rfl,d,j]at G;simpa[aX,aN]using G
theorem ac8{a:Nat}{cs:bF}{x:DataW H×List MemPlace}(b:DataW.trod enc prog W base sp held a 32 cs=some x)(d:Lw 32 x.1):∃(g:Sg) (e:Value),cs=aW g.leaf g.chains e/\dM W e g.path/\g.path.length<=9223372036854775807:=by
 have w:=(FT underlying32 b).trans IK;obtain⟨_,_,n,y⟩:=kW underlying32 b d 0 _ rfl 3 0 1 rfl rfl yJ;obtain⟨_,_,o,z⟩:=kW underlying32 b d 1 _ rfl 29 1 560 rfl rfl GG;obtain⟨_,_,p,s⟩:=kW underlying32 b d 2 _ rfl 30 561 1 rfl rfl Vi;obtain⟨t,j,_,_⟩:=uY underlying3 n;obtain⟨u,k⟩:=Rf o;obtain⟨v,l,m,q,c⟩:=QD p s;refine⟨⟨t,u,l⟩,v,?_,q,c⟩;have f:=kx cs 0 1;have r:=kx cs 1 560;have h:=kx cs 561 1;rw[jn (i:=561+1) (by omega)]at h;rw[j,show 0+1=1 from rfl,r,k,show 1+560=561 from rfl,h,m]at f;simpa[aW]using f
theorem Hb{a:Nat}{cs:bF}{x:DataW H×List MemPlace}(b:DataW.trod enc prog W base sp held a 34 cs=some x)(f:Lw 34 x.1):∃y:Sx,cs=gI y/\nw W y:=by
 have u:=(FT underlying34 b).trans I5;obtain⟨_,_,o,s⟩:=kW underlying34 b f 0 _ rfl 28 0 75 rfl rfl JZ;obtain⟨_,_,p,t⟩:=kW underlying34 b f 1 _ rfl 32 75 562 rfl rfl IK;obtain⟨k,m,rs,j,e⟩:=Og o s;obtain⟨g,r,l,q,c⟩:=ac8 p t;refine⟨⟨k,m,rs,g,r,e.n⟩,?_,⟨e,q,c⟩⟩;have d:=kx cs 0 75;have h:=kx cs 75 562;rw[jn (i:=75+562) (by omega),je]at h;rw[j,show 0+75=75 from rfl,h,l]at d;rw[gd]at d;exact d
theorem QS{a:Nat}{cs:bF}{x:DataW H×List MemPlace}(d:DataW.trod enc prog W base sp held a 35 cs=some x)(e:Lw 35 x.1):∃(v:Value) (l:List Sx),cs=[v]/\bX W v 637 (l.map gI)/\(∀y∈l,nw W y)/\l.length<=9223372036854775807:=
 y_ (aH rfl) I5 gI (nw W) (fun n c y h b=>Hb h b) underlying35 d e
end
theorem wu.gr{W V:aB}{k:bU}{a:bP}{rs:List Id}(h:wu W k a rs)(b:Gr W V):wu V k a rs:={ h with c:=h.c.gr b }
theorem nw.gr{W V:aB}{x:Sx}(h:nw W x)(a:Gr W V):nw V x:=⟨h.c.gr a,h.p.gr a,h.lp⟩
theorem vt(x:Sx):(gI x).length=637:=by
 show(aX x.k++aW x.g.leaf x.g.chains x.pv).length=637;rw[bV,dO,d_]
theorem nw.one{W:aB}{x:Sx}(h:nw W x):cN (gI x)=true:=by
 obtain⟨a,c,b⟩:=h.p.shape;show cN (aX x.k++aW x.g.leaf x.g.chains x.pv)=true;rw[iI,h.c.c.one,b,mn];rfl
end
structure F9(W:aB)(b o:Nat)(x:Ky):Prop where
 p0:hasRow W (aD b (o+1)) 17=true
 p1:rowAt W (aD b (o+1)) 17=aN x.h x.r
 l:W.cell? (aD b (o+18))=some (.int .i64 x.lim)
 i0:hasRow W (aD b (o+19)) 32=true
 i1:rowAt W (aD b (o+19)) 32=bC x.next
def Zr{W:aB}{b o:Nat}{x:Ky}(a:hasRow W (aD b o) 51=true)(c:rowAt W (aD b o) 51=cR x):F9 W b o x:=by
 have d:=qh a c;refine⟨pq a 1 17 (aH rfl),(pV a c 1 17 (aH rfl)).trans ?_,d 18 _ (GC x),pq a 19 32 (aH rfl),(pV a c 19 32 (aH rfl)).trans ?_⟩
 .unfold cR;rw[mr _ _ _ _ (aH rfl)];exact gP _ _ _ (bG _ _)
 .unfold cR
  rw[mr _ _ _ _ (aH rfl),eQ (aN x.h x.r) _ 18 32 17 (bG _ _) (aH rfl),mr _ _ _ _ (aH rfl),b_ _ _ (cC _)]
def Yn(L:List Rl)(v:Value)(a:aK)(m h:Int)(r:aK)(f:Int)(id:Id)(w:aB)(hv:bX w v 84 (L.map bK))(hl:L.length<=900):
  Calls prog 21 #[v,aE (bC a),.int .i64 m,aE (aN h r),.int .i64 f,aE (bC id)] w (RG w (.int .i64 (uV (chain L a) a m h r f id))):=by
 obtain⟨n,hn⟩:=ex w.heap.size;have HN:=aA hn;obtain⟨U0,hU,s,H0,H1,H2⟩:=jP hn (aC (bC a) 22) (aC (aN h r) 73) (aC (bC id) 25)
 have Z:=aA (Wv L v a U0 (hv.gr s) hl);have B1:=aO a;have B2:=cZ a;have B3:=cC id;have B4:=gE id;have B5:=h_ h r;have B6:=bG h r;obtain⟨l,J⟩:=ex (chain L a);rw[J]at Z;have j:Hid (uV (chain L a) a m h r f id=if lH l m=true then
  if iN (eT l m).h (eT l m).r h r=true then
   if 0<=(eT l m).lim then if(eT l m).lim<f then 3 else if f=(eT l m).lim/\id≠(eT l m).next then 3 else 0 else 0
  else 2
 else if m≠0 then 1 else if jG a h r=true then 0 else 2):=by show _=_;rw[J];rfl
 generalize uV (chain L a) a m h r f id=R at*
 obtain⟨r0,r1,r2⟩:=dL 16 B1 H0.out;have G:Hid (∀V,Gr U0 V->HB V n (bC a) 22/\HB V (n+1) (aN h r) 73/\HB V (n+1+1) (bC id) 25):=fun V I=>
  ⟨(I.block (aI H0)).trans H0,(I.block (aI H1)).trans H1,(I.block (aI H2)).trans H2⟩
 go_in;go_wp2_with fail;try simp only[hn]
 try rw[hU]
 replace hU:=aA hU;refine Z.mono ?_;rintro e i ⟨v1,rfl,hs,ah,g1⟩;have HS:=aA hs;have C:=aA g1;obtain⟨ad,ac,rfl,ae,-⟩:=hs;rw[cL]at ae HS|-
 have ag:=aA J;by_cases hm:0<=m/\m<l.length
 .obtain⟨k,rfl⟩:∃k:Nat,m=(k:Int):=⟨m.toNat,by omega⟩
  have hk:k<l.length:=by omega
  have q1:(k:Int)<(l.length:Int):=by omega
  have q2:=nn k
  have e2:lH l (k:Int)=true:=by unfold lH;exact fm hm
  have E1:eT l (k:Int)=l[k]:=by unfold eT;rw[aG q2,eD,cO (by omega)];rfl
  rw[e2,aG rfl,E1]at j;have a6:Hid (∃N o0,ad=some (aD N o0)/\∀V,Gr i V->F9 V N (o0+k*51) l[k]/\N<V.heap.size):=by
   obtain⟨a1,a8,e1,-,hj⟩:=HS.out;obtain⟨N,o0,ha,hb,u1,u2⟩:=hj k (by rw[cL];exact hk);obtain⟨rfl,rfl⟩:ad=a1/\ac=a8:=by simpa using e1
   rw[ig]at u2;exact⟨N,o0,ha,fun V I=>⟨Zr ((I.hasRow hb).trans u1) ((I.rowAt hb).trans u2),dQ hb I.size⟩⟩
  generalize l[k]=x at*
  obtain⟨N,o0,rfl,a2⟩:=a6.out;have a5:=aA a2;obtain⟨⟨T,U,X,Q,S⟩,Y⟩:=a2 i (Gr.refl i);obtain⟨u,z,B⟩:=dL 17 B6 (G.out i C.out).2.1;have l1:=bG x.h x.r;have l2:=h_ x.h x.r;have l3:=cC x.next;have l4:=gE x.next;generalize af:iN x.h x.r h r=pe at*
  have aa:=fun W=>Cy x.h x.r h r W;rw[af]at aa
  cases pe with
  |false=>
   have d:R=2:=by rw[j.out,aF (aH rfl)]
   subst d;go_wp2_with fail;refine ej (by kernel_rfl) (by kernel_rfl) ?_;repeat (go_big_quiet_step (fail))
   refine cX ?_;rintro _ ⟨p,rfl⟩;have M:=aA (C.trans (cK i p));generalize gw i p=V at*
   go_wp2_with fail;go_ret;exact⟨rfl,s.trans M⟩
  |true=>
   rw[aG rfl]at j;go_wp2_with fail;refine ej (by kernel_rfl) (by kernel_rfl) ?_;repeat (go_big_quiet_step (fail))
   refine cX ?_;rintro _ ⟨p,rfl⟩;have M:=aA (C.trans (cK i p));have ab:Hid (∀V,Gr (gw i p) V->F9 V N (o0+k*51) x/\N<V.heap.size):=fun V I=>a5 V ((cK i p).trans I);clear T U X Q S Y u z B a5 C;generalize gw i p=V at*
   obtain⟨⟨T,U,X,Q,S⟩,Y⟩:=ab.out V (Gr.refl V);obtain⟨u,z,B⟩:=dL 32 B3 (G.out V M.out).2.2;generalize x.lim=K at*
   by_cases E:0<=K
   .have d1:decide (0<=K)=true:=fm E
    rw[aG E]at j;by_cases O:K<f
    .have d2:decide (K<f)=true:=fm O
     have d:R=3:=by rw[j.out,aG O]
     subst d;replace E:=aA E;replace O:=aA O;go_wp2_with fail;refine ej (by kernel_rfl) (by kernel_rfl) ?_;repeat (go_big_quiet_step (fail))
     refine cX ?_;rintro _ ⟨b,rfl⟩;have o:=aA (M.trans (cK V b));generalize gw V b=V2 at*
     go_wp2_with fail;go_ret;exact⟨rfl,s.trans o⟩
    .have d2:decide (K<f)=false:=eL O
     rw[aF O]at j;replace E:=aA E;replace O:=aA O
     cases c3:(f==K)with
     |false=>
      have a4:¬(f=K):=fun q=>by rw[q]at c3;simp at c3
      have d:R=0:=by rw[j.out,aF (fun q=>a4 q.1)]
      replace a4:=aA a4;subst d;go_wp2_with fail;refine ej (by kernel_rfl) (by kernel_rfl) ?_;repeat (go_big_quiet_step (fail))
      refine cX ?_;rintro _ ⟨b,rfl⟩;have o:=aA (M.trans (cK V b));generalize gw V b=V2 at*
      go_wp2_with fail;go_ret;exact⟨rfl,s.trans o⟩
     |true=>
      have D:f=K:=by simpa using c3
      cases c4:(id==x.next)with
      |true=>
       have c5:(id != x.next)=false:=by simp[bne,c4]
       have g:id=x.next:=by simpa using c4
       have d:R=0:=by rw[j.out,aF (fun q=>q.2 g)]
       replace D:=aA D;replace g:=aA g;subst d;go_wp2_with fail;refine ej (by kernel_rfl) (by kernel_rfl) ?_;repeat (go_big_quiet_step (fail))
       refine cX ?_;rintro _ ⟨b,rfl⟩;have o:=aA (M.trans (cK V b));generalize gw V b=V2 at*
       go_wp2_with fail;go_ret;exact⟨rfl,s.trans o⟩
      |false=>
       have c5:(id != x.next)=true:=by simp[bne,c4]
       have g:id≠x.next:=by simpa using c4
       have d:R=3:=by rw[j.out,aG ⟨D,g⟩]
       replace D:=aA D;replace g:=aA g;subst d;go_wp2_with fail;refine ej (by kernel_rfl) (by kernel_rfl) ?_;repeat (go_big_quiet_step (fail))
       refine cX ?_;rintro _ ⟨b,rfl⟩;have o:=aA (M.trans (cK V b));generalize gw V b=V2 at*
       go_wp2_with fail;go_ret;exact⟨rfl,s.trans o⟩
   .have d1:decide (0<=K)=false:=eL E
    have d:R=0:=by rw[j.out,aF E]
    subst d;replace E:=aA E;go_wp2_with fail;refine ej (by kernel_rfl) (by kernel_rfl) ?_;repeat (go_big_quiet_step (fail))
    refine cX ?_;rintro _ ⟨b,rfl⟩;have o:=aA (M.trans (cK V b));generalize gw V b=V2 at*
    go_wp2_with fail;go_ret;exact⟨rfl,s.trans o⟩
 .have e2:lH l m=false:=by unfold lH;exact eL hm
  rw[e2,aF (aH rfl)]at j;by_cases P:0<=m
  .have h1:¬m<(l.length:Int):=by omega
   have d1:decide (0<=m)=true:=fm P;have d2:decide (m<(l.length:Int))=false:=eL h1;replace hm:=aA hm;by_cases t:m=0
   .subst t
    rw[aF (fun q=>q rfl)]at j;replace P:=aA P;obtain⟨ll,a3⟩:=ex (l.length:Int);rw[a3]at d2 h1;replace h1:=aA h1;obtain⟨u,z,B⟩:=dL 17 B6 (G.out i C.out).2.1;obtain⟨x3,x4,x5⟩:=dL 16 B1 (G.out i C.out).1;by_cases hf:cH h=0
    .have F:1<=h/\h<=8:=by
      unfold cH at hf;by_cases c:h<1\/8<h
      .rw[aG c]at hf;cases hf
      .omega
     have H:Hid (∀W,CG 45 #[aE (aN h r)] W (.bool true)):=fun W=>by
      have:=CA h r W;rw[fm F.1,fm F.2]at this;exact this
     have a7:Hid (∀W,CG 46 #[aE (aN h r)] W (aE (bC (cF (gv h r))))):=fun W=>Jw h r W F.1 F.2;have a9:jG a h r=(cF (gv h r)==a):=by unfold jG;rw[fm hf,vB]
     rw[a9]at j;generalize cF (gv h r)=y at*
     have l1:=aO y;have l2:=cZ y;replace F:=aA F;generalize ai:(y==a)=ya at*
     have d:R=if ya=true then 0 else 2:=j
     cases ya
     .rw[aF (aH rfl)]at d
      subst d;go_wp2_with fail;refine ej (by kernel_rfl) (by kernel_rfl) ?_;repeat (go_big_quiet_step ((first|(go_at_call 45;with_reducible exact eE (H.out _))|(go_at_call 46;with_reducible exact eE (a7.out _)))))
      refine cX ?_;rintro _ ⟨b,rfl⟩;have o:=aA (C.trans (cK i b));generalize gw i b=V2 at*
      go_wp2_with fail;go_ret;exact⟨rfl,s.trans o⟩
     .rw[aG rfl]at d
      subst d;go_wp2_with fail;refine ej (by kernel_rfl) (by kernel_rfl) ?_;repeat (go_big_quiet_step ((first|(go_at_call 45;with_reducible exact eE (H.out _))|(go_at_call 46;with_reducible exact eE (a7.out _)))))
      refine cX ?_;rintro _ ⟨b,rfl⟩;have o:=aA (C.trans (cK i b));generalize gw i b=V2 at*
      go_wp2_with fail;go_ret;exact⟨rfl,s.trans o⟩
    .have F:(decide (1<=h)&&decide (h<=8))=false:=by
      unfold cH at hf;by_cases c:h<1\/8<h
      .rcases c with c|c
       .rw[eL (by omega:¬1<=h)];rfl
       .rw[eL (by omega:¬h<=8),Bool.and_false]
      .rw[aF c]at hf;exact absurd rfl hf
     have H:Hid (∀W,CG 45 #[aE (aN h r)] W (.bool false)):=fun W=>by
      have:=CA h r W;rw[F]at this;exact this
     have d:R=2:=by rw[j.out];unfold jG;rw[eL hf,Bool.false_and];rfl
     replace hf:=aA hf;replace F:=aA F;subst d;go_wp2_with fail;refine ej (by kernel_rfl) (by kernel_rfl) ?_;repeat (go_big_quiet_step ((go_at_call 45;with_reducible exact eE (H.out _))))
     refine cX ?_;rintro _ ⟨b,rfl⟩;have o:=aA (C.trans (cK i b));generalize gw i b=V2 at*
     go_wp2_with fail;go_ret;exact⟨rfl,s.trans o⟩
   .have d3:(m==0)=false:=dI.2 t
    have d4:(m != 0)=true:=by simp[t]
    have d:R=1:=by rw[j.out,aG t]
    subst d;obtain⟨ll,a3⟩:=ex (l.length:Int);rw[a3]at d2 h1;replace P:=aA P;replace h1:=aA h1;replace t:=aA t;go_wp2_with fail;go_ret;exact⟨rfl,s.trans C⟩
  .have t:m≠0:=by omega
   have d1:decide (0<=m)=false:=eL P;have d3:(m==0)=false:=dI.2 t;have d4:(m != 0)=true:=by simp[t]
   have d:R=1:=by rw[j.out,aG t]
   subst d;replace P:=aA P;replace t:=aA t;replace hm:=aA hm;go_wp2_with fail;go_ret;exact⟨rfl,s.trans C⟩
end Go.Proofs.YtjfaogajmoffoaaGreatDoor
