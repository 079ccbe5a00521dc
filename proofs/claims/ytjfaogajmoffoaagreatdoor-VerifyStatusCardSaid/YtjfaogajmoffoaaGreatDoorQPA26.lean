/- Lemmas for VerifyStatus. -/
import Derived.Test.YtjfaogajmoffoaaGreatDoorQPA25
import Derived.Great.BuildSlice
import Derived.Deep.DeepHandedRow
set_option maxRecDepth 100000
set_option maxHeartbeats 16000000
set_option linter.all false
namespace Go.Proofs.YtjfaogajmoffoaaGreatDoor
open Go.RowKit Go.Proofs.Tryz
def Im(a b:bF)(k m:Nat)(x:Value)(h:a.length=m)(c:m<=k):(a++b).set k x=a++b.set (k-m) x:=by
 rw[pu _ _ (by omega),h]
def OM(k:bU)(s:aJ):(aX k).set 19 (.string s)=aX { k with subject:=s }:=by
 unfold aX;rw[Im _ _ 19 1 _ rfl (aH rfl),Im _ _ (19-1) 16 _ (aO _) (aH rfl)];rfl
def qu(W:aB)(x:Nat):Prop:=∃base a b,Rg W base x a b []
def qu.gr{W a:aB}{x:Nat}(h:qu W x)(d:Gr W a):qu a x:=by
 obtain⟨base,b,c,h⟩:=h;exact⟨base,b,c,h.gr d⟩
def ZY(w:aB):Calls prog 14 #[] w fun e w'=>∃x,e=.returned (bZ x)/\qu w' x/\Gr w w':=by
 refine(IE w).mono ?_;rintro e w' ⟨x,a,b,c,f,d⟩;exact⟨x,c,⟨_,a,b,f⟩,d⟩
def Kg{a r:aK}{s:aJ}{g c:Nat}(b:Ok a r s c)(E:Nat->aK)(l:Value)(L:aK)(x:Nat)(w:aB)(i:m6 w)(f:ol w g)(C:dM w l [L])(v:qu w x)(G:cF (1::r.toList)=a)(z:Int)(H:(if kS (cF (jE a r s)) ⟨0,E,[L]⟩=r then 0 else 3)=z):
  Calls prog 8 #[aE (dE (gh a r s g c) (aW 0 E l)),bZ x] w (RG w (.int .i64 z)):=by
 obtain⟨base,m,n,D⟩:=v;have h:=IR (gh a r s g c) [aS] [] ⟨0,E,[L]⟩ l (some (aD x 0)) w (Gv b.z) (Np b.c f) i.bg C i.jud (oA [] a 0 1 r 0 (jJ (gh a r s g c) [aS] [])) (Ln _ _ _ _ _ _ _) (fun W o=>
  KT base x m n [] (NR base x m n [] (bW _)) a 0 1 r 0 _ W (D.gr o) (i.bg.k.gr o))
 have u:oA [] a 0 1 r 0 (jJ (gh a r s g c) [aS] [])=0:=by
  have y:gv 1 r=1::r.toList:=rfl;have B:jG a 1 r=true:=by
   unfold jG;rw[y,G,beq_self_eq_true,pW];decide
  unfold oA;simp[lH,B]
 have e:mK (gh a r s g c) [aS] [] ⟨0,E,[L]⟩ (oA [] a 0 1 r 0 (jJ (gh a r s g c) [aS] []))=z:=by
  have t:fd ⟨0,E,[L]⟩=0:=aG ⟨aU 1,(by decide:1<=8),Int.le_refl 0,(by decide:(0:Int)<2^1)⟩;have F:fK (gh a r s g c) [aS] [] ⟨0,E,[L]⟩=kj 1 r (cF (jE a r s)) ⟨0,E,[L]⟩:=by
   unfold fK;rw[aF (fun h=>h (CV b.p b.q b.z)),Gm,aF (fun h=>h t),aF (fun h=>h rfl)];rfl
  have j:kj 1 r (cF (jE a r s)) ⟨0,E,[L]⟩=if kS (cF (jE a r s)) ⟨0,E,[L]⟩=r then 0 else 17:=by
   unfold kj;rw[aF (show ¬¬((1:Int)<=1/\(1:Int)<=8) by decide),aF (fun h=>h t)];by_cases d:kS (cF (jE a r s)) ⟨0,E,[L]⟩=r
   .rw[aG d,aF (fun h=>h.elim (fun h=>h rfl) (fun h=>h d))]
   .rw[aF d,aG (.inr d)]
  unfold mK;rw[F,j,u,<-H];by_cases d:kS (cF (jE a r s)) ⟨0,E,[L]⟩=r
  .rw[aG d,aG d];rfl
  .rw[aF d,aF d];rfl
 rw[<-e];exact h
structure ZA(r a:aK)(E:Nat->aK)(L:aK)(S:bF):Prop where
 sl:S.length=33
 so:cN S=true
 pb:∀W,Kt W->CG 11 #[aE S] W (.tuple #[aE (aN 1 r),.int .i64 0])
 au:∀W,Kt W->CG 12 #[aE (aN 1 r)] W (.tuple #[aE (bC a),.int .i64 0])
 sg:∀g W,Bg W->ol W g->Calls prog 13 #[aE (aX (gh a r ow g 1)),aE S] W fun e w'=>∃ap cp,e=.returned (.tuple #[aE (aW 0 E (.slice ap 1 cp)),.int .i64 0])/\dA 22 w' W.heap.size (.slice ap 1 cp) [L]/\Gr W w'
 s1:∀g ap cp x W,m6 W->ol W g->dM W (.slice ap 1 cp) [L]->qu W x->CG 8 #[aE (dE (gh a r ow g 1) (aW 0 E (.slice ap 1 cp))),bZ x] W (.int .i64 0)
 s2:∀g ap cp x W,m6 W->ol W g->dM W (.slice ap 1 cp) [L]->qu W x->CG 8 #[aE (dE (gh a r wm g 1) (aW 0 E (.slice ap 1 cp))),bZ x] W (.int .i64 3)
def U5:∃r a E L,ZA r a E L (fL iU 1):=by
 have j:cF (1::iS.toList)=kJ:=rfl;refine⟨iS,kJ,wR,il iU 1,p6 _ _,IX _ _,fun W h=>?_,fun W h=>?_,fun g W n b=>?_,fun g c d x W i b k f=>?_,fun g c d x W i b k f=>?_⟩
 .have:=Ge iU W h
  rw[Hl]at this;exact this
 .have:=TA iS W h
  rw[j]at this;exact this
 .have h:=Zc iU kJ ow g 1 (Hc 1 (aU 1)) W n b
  rw[Hl]at h;refine h.mono ?_;rintro e w' ⟨p,o,m,b⟩;obtain⟨c,d,l⟩:=m.shape;replace l:p=.slice c 1 d:=l;subst l;exact⟨c,d,o,m,b⟩
 .exact Kg (Hc 1 (aU 1)) wR _ _ x W i b k f j 0 (aG U')
 .exact Kg (Zz 1 (aU 1)) wR _ _ x W i b k f j 3 (aF SL)
def Oe(w:aB)(hT:m6 w):Calls prog 4 #[] w (RG w (.bool true)):=by
 obtain⟨r,a,E,L,G⟩:=U5;obtain⟨n,hn⟩:=ex w.heap.size;have HT:=aA hT;obtain⟨S,hS⟩:=ex (fL iU 1);rw[hS]at G;have al:∀w,eG prog 55 #[(1,.int .i64 1)] w=.ok (.value (aE S)) w:=fun w=>by rw[<-hS];exact WY w
 obtain⟨U0,hU⟩:=ex ((w.alloc (aC (fL (Vector.replicate 32 0) 0) 55)).setCells n 0 S);have N:Hid (Gr w U0):=hU▸((Gr.refl w).alloc _).setsOwn (b:=n) (by omega) _ 0
 have H0:Hid (HB U0 n S 55):=by
  show _=_;rw[<-hU];exact bO (aY _ _ _ hn.symm) (by rw[p6,G.sl])
 obtain⟨r0,r1,r2⟩:=dL 33 G.sl H0.out;have A0:=aY w (aC (fL (Vector.replicate 32 0) 0) 55) n hn.symm;have z0:=aP A0 0 33 (by rw[p6];decide);have z1:=bE A0 0 33;have s1:=G.sl;have s2:=G.so;have V:=aA G;have B5:=h_ 1 r;have B6:=bG 1 r;have B7:=aO a;have B8:=cZ a;go_in;go_wp2_with fail;refine bA (V.pb U0 (HT.gr N).b.k) fun w1 g1=>?_;clear r0 r1 r2 z0 z1;go_wp2_with fail;obtain⟨p,hp⟩:=ex w1.heap.size;have J1:=aA (aY w1 (aC (aN 1 r) 44) p hp.symm);have J:=aA (g1.alloc (aC (aN 1 r) 44));have K0:=aA ((J.block (aI H0)).trans H0);obtain⟨U1,a2⟩:=ex (w1.alloc (aC (aN 1 r) 44));rw[a2]at J1 J K0|-
 try rw[hp]
 refine bA (V.au U1 (HT.gr (N.trans J)).b.k) fun w2 g2=>?_;obtain⟨g,hg⟩:=ex (w2.heap.size+1);obtain⟨U3,H⟩:=ex ((w2.alloc (aC (bC a) 42)).alloc (.cells #[Value.string ⟨#[97]⟩] 9));have O:Hid (Gr U1 U3):=H▸(g2.alloc _).alloc _
 have K:Hid (U3.heap[g]? =some (.cells [Value.string ⟨#[97]⟩].toArray 9)):=H▸aY _ _ _ (by rw[<-hg];simp)
 have U:Hid (ol U3 g):=⟨aI K,(bH K 0).trans rfl⟩;have a3:∀w,eG prog 46 #[(1,aE (bC a)),(3,aR g 0 1 1),(4,.string ⟨#[116,101,97]⟩),(10,aE (aN 1 r))] w=.ok (.value (aE (aX (gh a r ow g 1)))) w:=fun w=>Pc a r ow g 1 w;obtain⟨k,hk⟩:∃k,gh a r ow g 1=k:=⟨_,rfl⟩;rw[hk]at a3;have y:=dO k;have ak:cN (aX k)=true:=by rw[<-hk];exact N' _ _ _ _ _
 obtain⟨f0,f1,f2⟩:=dL 17 B6 ((O.out.block (aI J1.out)).trans J1.out);obtain⟨c,hc⟩:=ex U3.heap.size;have af:Hid (w.heap.size<=c):=hc▸(N.trans (J.trans O)).size
 obtain⟨U4,ah,B,J4⟩:=gO hc (aC (aX k) 46)
 have K4:=aA (((O.trans B).block (aI K0)).trans K0);obtain⟨i0,i1,i2⟩:=dL 33 s1 K4.out;obtain⟨j0,j1,j2⟩:=dL 75 y J4.out;have Y:=aA (V.sg g U4 (HT.gr (N.trans (J.trans (O.trans B)))).bg (U.gr B))
 have ad:Hid (∀m s x W,m6 W->ol W g->dM W (.slice m 1 s) [L]->qu W x->CG 8 #[aE (dE k (aW 0 E (.slice m 1 s))),bZ x] W (.int .i64 0)):=by
  rw[<-hk];exact fun m s x W=>V.s1 g m s x W
 rw[hk]at Y;have X:=aA ZY;go_wp2_with fail;refine Y.mono ?_;rintro e w3 ⟨m,s,rfl,a7,g5⟩;obtain⟨Z,I⟩:=ex (aW 0 E (.slice m 1 s));have zl:Z.length=562:=by rw[<-I];exact d_ _ _ _
 have zo:cN Z=true:=by rw[<-I];exact mn _ _ _ _ _
 obtain⟨q,hq⟩:=ex w3.heap.size;obtain⟨l,t⟩:=ex ((w3.alloc (aC (aW 0 (fun _=>aQ) ke) 47)).setCells q 0 Z);have A5:=aY w3 (aC (aW 0 (fun _=>aQ) ke) 47) q hq.symm;have z0:=aP A5 0 562 (by rw[d_];decide);have z1:=bE A5 0 562;rw[I];have G5:Hid (Gr U4 l):=t▸(g5.alloc _).setsOwn (b:=q) (by have:=g5.size;omega) _ 0
 have J5:Hid (HB l q Z 47):=t▸bO A5 (by rw[d_,zl])
 have M:=aA ((G5.block (aI J4)).trans J4);have Q:=aA (N.trans (J.trans (O.trans (B.trans G5))));have a9:=aA (U.gr (B.trans G5));have D:Hid (dA 22 l U4.heap.size (.slice m 1 s) [L]):=by
  show dA _ _ _ _ _;rw[<-t];exact a7.gr (((Gr.refl w3).alloc _).setsOwn (b:=q) (by omega) _ 0)
 have ac:=aA D.nds
 have ae:Hid (∀x W,Gr l W->qu W x->CG 8 #[aE (dE k Z),bZ x] W (.int .i64 0)):=fun x W i hR=>by
  rw[<-I];exact ad m s x W (HT.gr (Q.trans i)) (a9.gr i) (ac.gr i) hR
 have ai:∀w,eG prog 49 #[(0,aE (aX k)),(1,aE Z)] w=.ok (.value (aE (dE k Z))) w:=fun w=>by rw[<-I];exact LS k 0 E _ w
 have KS:Hid (∀W,Gr l W->hasRow W (aD c 0) 75=true/\rowAt W (aD c 0) 75=aX k/\hasRow W (aD q 0) 562=true/\rowAt W (aD q 0) 562=Z):=fun W i=>by
  obtain⟨x1,x2,_⟩:=dL 75 y ((i.block (aI M.out)).trans M.out);obtain⟨y1,y2,_⟩:=dL 562 zl ((i.block (aI J5.out)).trans J5.out);exact⟨x1,x2,y1,y2⟩
 go_wp2_with fail;apply zQ (R:=fun x W'=>Hid (Gr l W'))
 case h=>
  go_region_held3 (fun u=>hasRow u (aD c 0) 75=true/\rowAt u (aD c 0) 75=aX k/\hasRow u (aD q 0) 562=true/\rowAt u (aD q 0) 562=Z) (first|exact KS _ (Gr.refl l).drew|exact KS _ C|exact KS _ P)
   (first
    |(go_simp;go_at_call 14;refine(X _).mono ?_;rintro e w6 ⟨x,rfl,hr,g6⟩;have C:Gr l w6:=Gr.trans (Gr.refl l).drew g6)
    |(go_simp;go_at_call 8;refine bA (ae _ _ C hr) fun w7 g7=>?_;have P:Gr l w7:=Gr.trans C g7))
  all_goals exact⟨x,aA P,rfl⟩
 rintro x W7 j;have C7:=aA ((j.block (aI M)).trans M);have e0:=bH C7 19;have e1:=ee C7 19;obtain⟨v,a5⟩:=ex (gh a r wm g 1);have a6:(aX k).set 19 (.string ⟨#[116,101,110]⟩)=aX v:=by
  rw[OM,<-a5,<-hk];rfl
 have l2:=dO v
 have a8:c≠q:=by
  intro h;have z:=M.out;rw[h,J5.out]at z;have h2:=ei (fun o:Option Obj=>match o with|some (.cells cs _ _)=>cs.size|_=>0) z;simp[y,zl]at h2
 have a4:g≠c:=by
  intro h;have z:=(B.block (aI K)).trans K;rw[h,J4.out]at z;have h2:=ei (fun o:Option Obj=>match o with|some (.cells cs _ _)=>cs.size|_=>0) z;simp[y]at h2
 go_wp2_with fail;obtain⟨f,d⟩:=ex (W7.setCell (aD c 19) (.string ⟨#[116,101,110]⟩));have J8:Hid (HB f c (aX v) 46):=by
  show _=_;rw[<-d,fC W7 c 19 _ _ _ C7.out,<-a6];simp
 have Z8:Hid (HB f q Z 47):=by
  show _=_;rw[<-d,yv W7 _ _ q (fun h=>a8 h.symm)];exact(j.block (aI J5)).trans J5
 have T:Hid (Gr w f):=d▸(Q.trans j).setOwn (b:=c) af _
 have aa:Hid (ol f g):=by
  have h:f.heap[g]? =some (.cells [Value.string ⟨#[97]⟩].toArray 9):=by
   rw[<-d,yv W7 _ _ g a4];have z:=(B.trans (G5.trans j)).block (aI K);exact z.trans K
  exact⟨aI h,(bH h 0).trans rfl⟩
 have ab:Hid (dM f (.slice m 1 s) [L]):=by
  show dM _ _ _;rw[<-d];refine((D.gr j).set 19 _ (fun h=>?_)).nds;have z:=(D.own h).1;have h2:=aI J4;omega
 have a1:Hid (∀x W,Gr f W->qu W x->CG 8 #[aE (dE v Z),bZ x] W (.int .i64 3)):=fun x W i hR=>by
  rw[<-I,<-a5];exact V.s2 g m s x W (HT.gr (T.trans i)) (aa.gr i) (ab.gr i) hR
 have aj:∀w,eG prog 49 #[(0,aE (aX v)),(1,aE Z)] w=.ok (.value (aE (dE v Z))) w:=fun w=>by rw[<-I];exact LS v 0 E _ w
 have F:Hid (∀W,Gr f W->hasRow W (aD c 0) 75=true/\rowAt W (aD c 0) 75=aX v/\hasRow W (aD q 0) 562=true/\rowAt W (aD q 0) 562=Z):=fun W i=>by
  obtain⟨x1,x2,_⟩:=dL 75 l2 ((i.block (aI J8.out)).trans J8.out);obtain⟨y1,y2,_⟩:=dL 562 zl ((i.block (aI Z8.out)).trans Z8.out);exact⟨x1,x2,y1,y2⟩
 rw[d];apply zQ (R:=fun x W'=>Hid (Gr f W'))
 case h=>
  go_region_held3 (fun u=>hasRow u (aD c 0) 75=true/\rowAt u (aD c 0) 75=aX v/\hasRow u (aD q 0) 562=true/\rowAt u (aD q 0) 562=Z) (first|exact F _ (Gr.refl f).drew|exact F _ C|exact F _ P)
   (first
    |(go_simp;go_at_call 14;refine(X _).mono ?_;rintro e w6 ⟨x,rfl,hr,g6⟩;have C:Gr f w6:=Gr.trans (Gr.refl f).drew g6)
    |(go_simp;go_at_call 8;refine bA (a1 _ _ C hr) fun w7 g7=>?_;have P:Gr f w7:=Gr.trans C g7))
  all_goals exact⟨x,aA P,rfl⟩
 rintro x2 W9 ag;go_wp2_with fail;go_ret;exact⟨rfl,T.trans ag⟩
@[go_sem ↓] def ahO {P:Program} (b:Operand->Value) (d:Option Tmp) (a:Array (Nat×Operand)) (e:TypeId) (p:String) (c:Array Edge) (g:Option (Nat×Bool)) (w:aB):
  Sem.run P (execOp b ⟨d,.buildSlice 35 1 a,e,p,c,g⟩) w=jI P 35 1 (a.map fun x=>(x.1,b x.2)) w:=rfl
def Ve{s:Nat}(g:0<s)(v:Value)(j:v.cells.size=s)(a:Array Value)(e:a.size=s):Instr.fill (fun i=>some (i*s,s)) a [(0,v)]=some v.cells:=by
 obtain⟨r,f,l,c⟩:=Great.fill_dense g [v] 0 a (fun u h=>by rw[sN.1 h];exact j) (by simp[e]);have d:r=v.cells:=by
  refine xH fun k=>?_;rw[c k];simp only[rx,bW,true_and,jN,fB,Nat.one_mul];by_cases b:k<s
  .rw[aG b,sk b,nF b]
   rfl
  .rw[aF b,x_ (by omega),x_ (by omega)]
 rw[<-d];exact f
def UV:((prog.info? 34).bind (·.zero)).isSome=true:=by kernel_rfl
def Ir:(prog.info? 34).map (·.size)=some 637:=by kernel_rfl
def ab4:prog.underlying 35=some (.slice 34):=by kernel_rfl
@[go_sem] def afZ (y:Sx) (w:aB):jI prog 35 1 #[(0,aE (gI y))] w=.ok (.value (aR (w.heap.size) 0 1 1)) (w.alloc (aC (gI y) 34)):=qc (by
 cases hie:prog.info? 34 with
 |none=>have:=Ir;simp[hie]at this
 |some c=>
  have a:c.size=637:=by have:=Ir;simpa[hie]using this
  obtain⟨z,b⟩:=xG.1 UV;rw[hie,Option.bind_some]at b;refine run_buildSlice w _ _ 1 _ _ c z ab4 hie b (by rw[a];decide) (by rw[a];decide) ?_;rw[a];exact Ve (aH rfl) (aE (gI y)) (by simpa[Value.cells]using vt y) _ (by simp))
def Pu(x:Sx)(w:aB)(e:Ending)(w':aB):Prop:=∃(a:bU) (pv':Value),e=.returned (aE (dE a (aW x.g.leaf x.g.chains pv')))/\(∃g r,a=jo x.k g r)/\fF w' a x.gs x.rs/\dM w' pv' x.g.path/\Gr w w'
def KH(x:Sx)(f:bU)(i:∃g r,f=jo x.k g r)(c:Value)(p:dB)(w:aB)(a:iO x.k x.gs)(o:fF w f x.gs x.rs)(m:m6 w)(u:dM w c x.g.path)(j:Int)(s:uX j)(q:Ar w p f (jJ x.k x.gs x.rs) j):
  Calls prog 8 #[aE (dE f (aW x.g.leaf x.g.chains c)),.pointer p] w (RG w (.int .i64 (mK x.k x.gs x.rs x.g j))):=by
 obtain⟨g,r,rfl⟩:=i;have h:iO (jo x.k g r) x.gs:=⟨a.t,a.b,a.g,a.z,a.n,a.d,a.l⟩;exact IR (jo x.k g r) x.gs x.rs x.g c p w h o m.bg u m.jud j s q
def ac9{L:List Rl}(b:ny L)(k:bU)(a:bP)(rs:List Id)(c:fc k a rs=0):ac5 L k a rs=oA (chain L k.author) k.author k.number k.height k.root k.leaf (jJ k a rs):=by
 unfold ac5;rw[abw b.leaf,jJ,aG c]
def Th(x:Sx)(l:List Sx)(v:Value)(w:aB)(hx:nw w x)(hv:bX w v 637 (l.map gI))(hl:∀y∈l,nw w y)(hll:l.length<=9223372036854775807)(hT:m6 w):
  Calls prog 3 #[.agg (gI x).toArray,v] w (RG w (.bool true)):=by
 obtain⟨ad,cap,hve,-⟩:=FF hv;subst hve;obtain⟨n,hn⟩:∃n,w.heap.size=n:=⟨_,rfl⟩;obtain⟨U0,hU⟩:∃U0,w.alloc (aC (gI x) 34)=U0:=⟨_,rfl⟩;have HG:Hid (Gr w U0):=by show Gr _ _;rw[<-hU];exact(Gr.refl w).alloc _
 have H0:=aA (show HB U0 n (gI x) 34 by rw[<-hU];exact aY _ _ _ hn.symm)
 have HBX:Hid (∀V,Gr U0 V->hasRow V ⟨n,0,none⟩ 637=true/\rowAt V ⟨n,0,none⟩ 637=gI x/\n<V.heap.size):=fun V hV=>by
  have hb:=(hV.block (aI H0)).trans H0;exact⟨aP hb 0 637 (by rw[vt];decide),(bJ hb 0 637 (by rw[vt];decide)).trans (b_ _ _ (vt x)),aI hb⟩
 have TK:Hid (∀V,Gr U0 V->CG 4 #[] V (.bool true)):=fun V hV=>Oe V (hT.gr (HG.trans hV));have TF:Hid (∀V,Gr U0 V->Calls prog 5 #[.slice ad l.length cap] V (y9 ((∀x∈l,oq x)/\l.length<=8) V)):=fun V hV=>Hm l _ V (bX.gr hv (HG.trans hV)) (fun y hy=>(hl y hy).gr (HG.trans hV)) hll;have TF1:Hid (∀V v1,Gr U0 V->bX V v1 637 ([x].map gI)->Calls prog 5 #[v1] V (y9 ((∀y∈[x],oq y)/\[x].length<=8) V)):=fun V v1 hV h1=>Hm [x] v1 V h1 (fun y hy=>by rw[List.mem_singleton]at hy;subst hy;exact hx.gr (HG.trans hV)) (by simp);have TR:Hid ((∀y∈l,oq y)->l.length<=8->∀V,Gr U0 V->Calls prog 6 #[.slice ad l.length cap] V fun e w'=>∃v',e=.returned v'/\bX w' v' 84 ((gB l).map bK)/\Gr V w'):=fun h1 h2 V hV=>ad9 l _ V (bX.gr hv (HG.trans hV)) (fun y hy=>(hl y hy).gr (HG.trans hV)) (fun y hy=>(h1 y hy).1) (by omega)
 have TS:Hid (oq x->l.length<=8->∀V v1,Gr U0 V->bX V v1 84 ((gB l).map bK)->CG 7 #[.agg (gI x).toArray,v1] V (.int .i64 (p7 (gB l) x.k x.gs x.rs x.g))):=fun h1 h2 V v1 hV hs=>by
  have h3:=xk l l.length (Nat.le_refl _);rw[List.take_length]at h3;unfold gI;exact abo x.k x.gs x.rs x.g x.pv (gB l) v1 V h1.1.1 (hx.c.c.gr (HG.trans hV)) (by have:=h1.1.2;omega) (hx.p.gr (HG.trans hV)) hs (by omega)
 have TO:Hid (oq x->∀V,Gr U0 V->Calls prog 9 #[.agg (gI x).toArray] V (Pu x V)):=fun h1 V hV=>WE x V (hx.c.c.gr (HG.trans hV)) (hx.p.gr (HG.trans hV)) h1.1.1.g h1.1.2 h1.2
 have TG:Hid (l.length<=8->∀V v1,Gr U0 V->bX V v1 84 ((gB l).map bK)->Calls prog 10 #[v1] V (JU (gB l) V)):=fun h2 V v1 hV hs=>by
  have h3:=xk l l.length (Nat.le_refl _);have h4:=CR l l.length (Nat.le_refl _);rw[List.take_length]at h3 h4;exact WO (gB l) v1 V hs h4 (hT.bg.k.gr (HG.trans hV)) (by omega)
 have TV0:Hid (oq x->∀V k' pv',Gr U0 V->(∃g r,k'=jo x.k g r)->fF V k' x.gs x.rs->dM V pv' x.g.path->CG 8 #[.agg (dE k' (aW x.g.leaf x.g.chains pv')).toArray,.pointer none] V (.int .i64 (mK x.k x.gs x.rs x.g 1))):=fun h1 V k' pv' hV hk hc hp=>
  KH x k' hk pv' none V h1.1.1 hc (hT.gr (HG.trans hV)) hp 1 (.inr (.inl rfl)) (fun W _=>R8 _ _ _ _ _ _ W)
 have TV1:Hid (oq x->l.length<=8->∀V k' pv' base y b1 b2,Gr U0 V->(∃g r,k'=jo x.k g r)->fF V k' x.gs x.rs->dM V pv' x.g.path->Rg V base y b1 b2 (gB l)->CG 8 #[.agg (dE k' (aW x.g.leaf x.g.chains pv')).toArray,.pointer (some ⟨y,0,none⟩)] V (.int .i64 (p7 (gB l) x.k x.gs x.rs x.g))):=fun h1 h2 V k' pv' base y b1 b2 hV hk hc hp hR=>by
  have h3:=xk l l.length (Nat.le_refl _);have h4:=CR l l.length (Nat.le_refl _);rw[List.take_length]at h3 h4;have hVT:=hT.gr (HG.trans hV)
  have key:=KH x k' hk pv' (some ⟨y,0,none⟩) V h1.1.1 hc hVT hp (oA (chain (gB l) x.k.author) x.k.author x.k.number x.k.height x.k.root x.k.leaf (jJ x.k x.gs x.rs)) (Ln _ _ _ _ _ _ _) (fun W hW=>by
   obtain⟨g,r,rfl⟩:=hk;exact KT base y b1 b2 (gB l) (NR base y b1 b2 (gB l) (by omega)) x.k.author x.k.number x.k.height x.k.root x.k.leaf (jJ x.k x.gs x.rs) W (hR.gr hW) (hVT.bg.k.gr hW))
  have e:mK x.k x.gs x.rs x.g (oA (chain (gB l) x.k.author) x.k.author x.k.number x.k.height x.k.root x.k.leaf (jJ x.k x.gs x.rs))=p7 (gB l) x.k x.gs x.rs x.g:=by
   unfold mK p7;by_cases h0:fK x.k x.gs x.rs x.g=0
   .rw[if_pos h0,if_pos h0,ac9 h4 x.k x.gs x.rs (yP h0)]
   .rw[if_neg h0,if_neg h0]
  rw[e]at key;exact key
 have HEND:Hid ((p7 (gB l) x.k x.gs x.rs x.g=3/\mK x.k x.gs x.rs x.g 1=3)\/(p7 (gB l) x.k x.gs x.rs x.g≠3/\mK x.k x.gs x.rs x.g 1=1)):=by
  unfold mK p7;by_cases h0:fK x.k x.gs x.rs x.g=0
  .rw[if_pos h0,if_pos h0]
   refine .inr ⟨?_,rfl⟩;unfold sX;split
   .decide
   .split<;>decide
  .rw[if_neg h0,if_neg h0];exact .inl ⟨rfl,rfl⟩
 generalize p7 (gB l) x.k x.gs x.rs x.g=want at*
 generalize mK x.k x.gs x.rs x.g 1=non at*
 have d1:=vt x;have d2:=hx.one;clear hx hv hl hll hT H0;have HU:=Lib.hid hU;have HNN:=Lib.hid hn;go_in;go_wp2_with fail;try simp only[hn]
 try rw[hU]
 replace hU:=Lib.hid hU;refine(TK U0 (Gr.refl _)).mono ?_;rintro e w1 ⟨rfl,g1⟩;have G1:=Lib.hid g1;clear g1;go_wp2_with fail;refine(TF w1 G1).mono ?_;rintro e w2 ⟨b,rfl,hb,g2⟩;have G2:=Lib.hid (G1.trans g2);have HB:=Lib.hid hb;clear hb g2
 cases b with
 |false=>
  go_wp2_with fail;refine(TK w2 G2).mono ?_;rintro e w3 ⟨rfl,g3⟩;have G3:=Lib.hid (G2.trans g3);clear g3;go_wp2_with fail;go_ret;exact⟨rfl,HG.trans G3⟩
 |true=>
  obtain⟨e1,e2,e3⟩:=HBX.out w2 G2.out;obtain⟨m,hm⟩:∃m,w2.heap.size=m:=⟨_,rfl⟩;have XS:=aY w2 (aC (gI x) 34) m hm.symm;have G3:Hid (Gr U0 (w2.alloc (aC (gI x) 34))):=G2.alloc _;have T1:=Lib.hid (TF1 _ (.slice (some ⟨m,0,none⟩) 1 1) G3 (Ec XS d1));clear XS;go_wp2_with fail;try simp only[hm]
  refine T1.mono ?_;rintro e w4 ⟨b,rfl,hb,g4⟩;have G4:=Lib.hid (G3.trans g4);have HB1:=Lib.hid hb;clear hb g4 T1 e1 e2 e3 hm
  cases b with
  |false=>
   go_wp2_with fail;refine(TK w4 G4).mono ?_;rintro e w5 ⟨rfl,g5⟩;have G5:=Lib.hid (G4.trans g5);clear g5;go_wp2_with fail;go_ret;exact⟨rfl,HG.trans G5⟩
  |true=>
   have HF:=Lib.hid (HB (by trivial));have HFX:Hid (oq x):=(HB1 (by trivial)).1 x (List.mem_singleton.2 rfl);go_wp2_with fail;refine(TR HF.1 HF.2 w4 G4).mono ?_;rintro e w5 ⟨v5,rfl,hs5,g5⟩;have S5:=Lib.hid hs5;have G5:=Lib.hid (G4.trans g5);clear hs5 g5;obtain⟨e1,e2,e3⟩:=HBX.out w5 G5.out;go_wp2_with fail;refine(TS HFX HF.2 w5 v5 G5 S5).mono ?_;rintro e w6 ⟨rfl,g6⟩;have S6:=Lib.hid (bX.gr S5 g6);have G6:=Lib.hid (G5.trans g6);clear g6 e1 e2 e3;obtain⟨e1,e2,e3⟩:=HBX.out w6 G6.out;go_wp2_with fail;refine(TO HFX w6 G6).mono ?_;rintro e w7 ⟨k7,pv7,rfl,hk7,hc7,hp7,g7⟩;have S7:=Lib.hid (bX.gr S6 g7);have G7:=Lib.hid (G6.trans g7);have T7:=Lib.hid (TV0 HFX w7 k7 pv7 G7 hk7 hc7 hp7);clear g7 e1 e2 e3 hk7 hc7 hp7;go_wp2_with fail;refine T7.mono ?_;rintro e w8 ⟨rfl,g8⟩;have S8:=Lib.hid (bX.gr S7 g8);have G8:=Lib.hid (G7.trans g8);clear g8;obtain⟨e1,e2,e3⟩:=HBX.out w8 G8.out;go_wp2_with fail;refine(TO HFX w8 G8).mono ?_;rintro e w9 ⟨k9,pv9,rfl,hk9,hc9,hp9,g9⟩;have S9:=Lib.hid (bX.gr S8 g9);have G9:=Lib.hid (G8.trans g9);have C9:=Lib.hid hc9;have P9:=Lib.hid hp9;have K9:=Lib.hid hk9;clear g9 e1 e2 e3 hk9 hc9 hp9;go_wp2_with fail;refine(TG HF.2 w9 v5 G9 S9).mono ?_;rintro e w10 ⟨y,b1,b2,rfl,hR,g10⟩;have G10:=Lib.hid (G9.trans g10);have T10:=Lib.hid (TV1 HFX HF.2 w10 k9 pv9 w9.heap.size y b1 b2 G10 K9 (C9.gr g10) (P9.gr g10) hR);clear g10 hR;go_wp2_with fail;refine T10.mono ?_;rintro e w11 ⟨rfl,g11⟩;have G11:=Lib.hid (G10.trans g11);clear g11;rcases HEND.out with⟨h1,h2⟩|⟨h1,h2⟩
   .subst h1;subst h2
    go_wp2_with fail;go_ret;exact⟨rfl,HG.trans G11⟩
   .subst h2
    have f1:(want==3)=false:=beq_eq_false_iff_ne.2 h1;have f2:(want==want)=true:=by simp
    replace h1:=Lib.hid h1;go_wp2_with fail;go_ret;exact⟨rfl,HG.trans G11⟩
def own:ownKnob prog.godebug=none:=by kernel_rfl
def ad7:bF:=(([128,191,160,191,128,159,144,191,128,143]:List Int)++List.replicate 22 0).map fun n=>.int .u8 n
def firstCells:bF:=Go.Pinned.utf8FirstZ.map fun(n:Nat)=>Value.int .u8 (n:Int)
def adS:DataW Unit->Value
 | .lit (.int k n)=>.int k n
 | .lit (.string l)=>.string ⟨l.toArray⟩
 |_=>undef
def ut:DataW Unit->List Value
 | .agg l=>l.map adS
 |_=>[]
def aec(cs:bF):Obj->Obj
 | .cells _ t frozen=>.cells cs.toArray t frozen
 |o=>o
def OL:List (Nat×bF):=[(8,firstCells),(9,ad7),(6,ut Rows.laid_math_bits_deBruijn32tab),(7,ut Rows.laid_math_bits_deBruijn64tab),(5,ut Rows.laid_internal_strconv_uint64pow10),(3,ut Rows.laid_bulletin_base64_alphabet),(2,ut Rows.laid_bulletin_sha256_constants),(1,ut Rows.laid_bulletin_canonical_formWords),(0,ut Rows.laid_bulletin_verify_judged)]
noncomputable def D_(os:Os):World:=
 { World.holding prog os ⟨#[],#[],[]⟩with heap:=OL.foldl (fun h p=>h.modify p.1 (aec p.2)) (World.holding prog os ⟨#[],#[],[]⟩).heap }
def aaj:(Rows.verifyStatusRow.unfollowed==prog.unfollowed 3)=true:=by kernel_rfl
def abT:(Rows.verifyStatusRow.recurses==prog.recurses 3)=true:=by kernel_rfl
def ad0:(Rows.verifyStatusRow.inPlace==prog.inPlace 3)=true:=by kernel_rfl
def YJ:(Rows.verifyStatusRow.named==prog.varsNamed 3)=true:=by kernel_rfl
def UP:joinedFacts prog 3 Tryz.f3 (OpenSpec.ofChange Rows.verifyStatusSpec).bare Rows.verifyStatusRow=true:=by
 unfold joinedFacts;rw[aaj,abT,ad0,YJ];kernel_rfl
end Go.Proofs.YtjfaogajmoffoaaGreatDoor
