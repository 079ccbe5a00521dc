/- Lemmas for VerifyStatus. -/
import Derived.Test.YtjfaogajmoffoaaGreatDoorQPA13
set_option maxRecDepth 100000
set_option maxHeartbeats 16000000
set_option linter.all false
namespace Go.Proofs.YtjfaogajmoffoaaGreatDoor
open Go.RowKit Tryz
def tu{W:aB}{b:Nat}{a:Int}{e:Nat->aK}{p:Value}{t:TypeId}(h:HB W b (aW a e p) t):wE W b a e p:=
 ⟨(bH h 0).trans (wb _ _ _),(bH h 561).trans (sE _ _ _),aP h 1 560 (by rw[d_];decide),(bJ h 1 560 (by rw[d_];decide)).trans (Cc _ _ _),aP h 0 562 (by rw[d_];decide),(bJ h 0 562 (by rw[d_];decide)).trans (b_ _ _ (d_ _ _ _)),aI h⟩
def WG{W:aB}{b:Nat}{a:Int}{e:Nat->aK}{p:Value}{t:TypeId}(h:HB W b (aW a e p) t) (k:Nat) (c:k<35):hasRow W (aD b (1+k*16)) 16=true/\rowAt W (aD b (1+k*16)) 16=bC (e k):=by
 refine⟨aP h _ 16 (by rw[d_];omega),(bJ h _ 16 (by rw[d_];omega)).trans ?_⟩;unfold aW;rw[mr _ _ _ _ (by omega),show 1+k*16-1=16*k by omega,yb e k c,fl,eQ _ _ _ _ (16*k) (uE e k 0) (aU _),qR,fl,gP _ _ _ (aO _)]
@[go_sem] def aex:dZ prog 32 =true:=by kernel_rfl
@[go_sem] def aeT:prog.cellsOf 32 =562:=by kernel_rfl
def PM(f:Nat)(J:f<256)(d:aK)(e:Nat->aK)(a:dB)(N c:Nat)(w:aB):Calls prog 134 #[aE (bC d),aE (aW (f:Int) e (.slice a N c))] w (RG w (aE (bC (jB f d e)))):=by
 obtain⟨n,K⟩:=ex w.heap.size;have R:=aA K;obtain⟨S,H⟩:=ex (aW (f:Int) e (.slice a N c));obtain⟨T,s,Q,L,-,O,-⟩:=CZ K (aC (bC d) 22) (aC S 32) (aC (bC aQ) 22) (aC (cB fun _=>aQ) 276)
 have M:Hid (HB T (n+1) (aW (f:Int) e (.slice a N c)) 32):=by
  show _=_;rw[<-s,H];exact((((Gr.refl _).alloc _).alloc _).block (by simp;omega)).trans (aY _ _ _ (by simp;omega))
 have P:Hid (HB T (n+1+1+1) (cB (nY 0 e)) 276):=by
  show _=_;rw[<-s,Bb];exact aY _ _ _ (by simp;omega)
 have l:Hid (∀W,CG 175 #[.int .i64 (f:Int),aE (bC d),aE (cB e)] W (aE (cB (gF f d e)))):=fun W=>ZG f J d e W;have h:Hid (∀W,CG 174 #[.int .i64 (f:Int),aE (cB (gF f d e))] W (aE (bC (lA f (gF f d e))))):=fun W=>aas f J (gF f d e) W;have E:Hid (lA f (gF f d e)=jB f d e):=rfl;rw[E.out]at h;have D:=aA (fun k=>zG k e);have C:=aA (BQ e);generalize jB f d e=y at*
 have U:=aO y;have c2:=cZ y;have c3:=aO d;have X:=en e;obtain⟨EL,r⟩:=ex (cB (gF f d e));rw[r]at l h;rw[H];go_in;go_wp2_with fail;try rw[s]
 replace s:=aA s
 go_loopw [6] (fun j wr=>∃k:Nat,k<=35/\j=.int .i64 (k:Int)/\Hid (HB wr n (bC d) 22)/\Hid (HB wr (n+1) (aW (f:Int) e (.slice a N c)) 32)/\Hid (HB wr (n+1+1) (bC aQ) 22)/\Hid (HB wr (n+1+1+1) (cB (nY k e)) 276)/\Hid (Gr w wr)) (fun j _=>35-(intOf j).toNat)
 .exact⟨0,bW _,rfl,L,M,O,P,Q⟩
 .
  obtain⟨k,hk,rfl,v,m,z,g,G⟩:=hrel;by_cases t:k<35
  .have q1:(k:Int)<35:=by omega
   have q2:=nn k
   have o:=aA (D k);obtain⟨r0,r1⟩:=WG m.out k t;have r2:=aI m;have z0:=aP g (k*16) 16 (by rw[en];omega);have z1:=bE g (k*16) 16;have z2:=aI g;have d1:=aO (e k);have d2:=cZ (e k);have X3:Hid (HB (wr.setCells (n+1+1+1) (k*16) (bC (e k))) (n+1+1+1) (cB (nY (k+1) e)) 276):=by
    show _=_;rw[wP g.out k t,o.out]
   have X0:=aA ((cD (i:=n) (b:=n+1+1+1) (by omega) (bC (e k)) (k*16) wr).trans v);have X1:=aA ((cD (i:=n+1) (b:=n+1+1+1) (by omega) (bC (e k)) (k*16) wr).trans m);have X2:=aA ((cD (i:=n+1+1) (b:=n+1+1+1) (by omega) (bC (e k)) (k*16) wr).trans z);have B:=aA (G.setsOwn (b:=n+1+1+1) (by have:=R.out;omega) (bC (e k)) (k*16));generalize e k=x at*
   go_wp2_with fail;go_roundw
   .exact⟨k+1,by omega,by go_num,X0,X1,X2,X3,B⟩
   .simp[intOf];omega
  .obtain rfl:k=35:=by omega
   have q1:¬((35:Nat):Int)<35:=by omega
   rw[C.out]at g;have HF:Hid (∀V,Gr wr V->V.cell? (aD (n+1) 0)=some (.int .i64 (f:Int))/\hasRow V (aD n 0) 16=true/\rowAt V (aD n 0) 16=bC d/\hasRow V (aD (n+1+1+1) 0) 560=true/\rowAt V (aD (n+1+1+1) 0) 560=cB e/\n<V.heap.size/\n+1<V.heap.size/\n+1+1+1<V.heap.size):=by
    intro V I;have k0:=(I.block (aI v)).trans v;have Z:=(I.block (aI m)).trans m;have k3:=(I.block (aI g)).trans g;obtain⟨r0,r1,r2⟩:=dL 16 c3 k0;obtain⟨s0,s1,s2⟩:=dL 560 X k3;exact⟨(tu Z).1,r0,r1,s0,s1,r2,aI Z,s2⟩
   obtain⟨f1,f2,f3,f4,Y,f6,f7,f8⟩:=HF.out wr (Gr.refl wr);obtain⟨EE,p⟩:=ex (cB e);rw[p]at Y l X;go_wp2_with fail;refine jd 8 (fun u=>∃q:GD,u=gw wr q) (by kernel_rfl) (by kernel_rfl) (nM wr) ?_;simp only[gR,fy,ib,gd];repeat (go_big_quiet_step (first|(go_at_call 175;with_reducible exact eE (l.out _))|(go_at_call 174;with_reducible exact eE (h.out _))))
   refine cX ?_;rintro _ ⟨q,rfl⟩;have F:=aA (((cK wr q).block (aI z)).trans z);have B:=aA (G.trans (cK wr q));generalize gw wr q=V at*
   have z1:=aP F 0 16 (by rw[aO];decide);have z2:=bE F 0 16;have HE:Hid (HB (V.setCells (n+1+1) 0 (bC y)) (n+1+1) (bC y) 22):=bO F (by rw[U,aO])
   have G3:=aA (B.setsOwn (b:=n+1+1) (by have:=R.out;omega) (bC y) 0);go_wp2_with fail;refine bI (dY rfl _ _ (n+1+1) _ _ _ _ rfl HE underlying22 rfl (by rw[bQ,U];kernel_rfl)) rfl ?_;exact⟨rfl,G3⟩
def ad5(a:Nat)(b:aK)(l:List aK)(k:Nat)(h:k<l.length):gQ a 0 b (l.take (k+1))=ia (k+1) (kw a k (gQ a 0 b (l.take k)) l[k]).1 (kw a k (gQ a 0 b (l.take k)) l[k]).2:=by
 rw[eF h,Kh,dP,fB,tS (by omega)];rfl
def abj(f:Nat)(hl:f<256)(d:aK)(e:Nat->aK)(l:List aK)(a:dB)(c:Nat)(ae:l.length<=8)(w:aB)(hp:dM w (.slice a l.length c) l):Calls prog 80 #[aE (bC d),aE (aW (f:Int) e (.slice a l.length c))] w (RG w (aE (bC (kS d ⟨f,e,l⟩)))):=by
 obtain⟨n,hn⟩:=ex w.heap.size;have HN:=aA hn;have ad:=aA (show kS d ⟨f,e,l⟩=gQ f 0 (jx f (jB f d e).toList) l by unfold kS;simp)
 rw[ad.out];obtain⟨S,L⟩:=ex (aW (f:Int) e (.slice a l.length c));have b1:=d_ (f:Int) e (.slice a l.length c);have b2:=mn (f:Int) e a l.length c;rw[L]at b1 b2;obtain⟨J,hU,HG,H0,-,H2⟩:=jP hn (aC (bC d) 22) (aC S 32) (aC (bC aQ) 22)
 have H:Hid (HB J (n+1) (aW (f:Int) e (.slice a l.length c)) 32):=by
  show _=_;rw[<-hU,L];exact(((Gr.refl _).alloc _).block (by simp;omega)).trans (aY _ _ _ (by simp;omega))
 have t:=PM f hl d e a l.length c J;rw[L]at t;replace t:=aA t;have ab:Hid (∀W v,gC W v (jB f d e).toList->CG 135 #[.int .i64 (f:Int),v] W (aE (bC (jx f (jB f d e).toList)))):=fun W v hv=>NY f hl v _ W (by simp) hv;have aa:=aA (ad5 f (jx f (jB f d e).toList) l);have HP:=aA hp;generalize P:jB f d e=rv at*
 generalize O:jx f rv.toList=G at*
 replace P:=aA P;replace O:=aA O;obtain⟨r0,r1,r2⟩:=dL 16 (aO d) H0.out;have s1:=tu H;obtain⟨t1,t2,t3,t4,t5,t6,t7⟩:=s1;rw[L]at t6;have c1:=aO d;have c2:=cZ d;have c3:=aO rv;have c4:=cZ rv;have c5:=aO G;have c6:=cZ G;rw[L];have ak:=aA L;go_in;go_wp2_with fail;try rw[hU]
 replace hU:=aA hU;refine bA t fun w1 g1=>?_;obtain⟨b5,M⟩:=ex w1.heap.size;obtain⟨g,C,-,K5⟩:=gO M (aC (bC rv) 22)
 have G2:Hid (Gr J g):=C▸g1.alloc _
 have ai:Hid (n+1+1<b5):=M▸dQ (aI H2) g1.size
 go_wp2_with fail;try rw[C]
 replace C:=aA C;have u1:=(tu ((G2.block (aI H)).trans H)).1;have u2:=aI ((G2.block (aI H)).trans H);have u3:g.drew.cell? (aD (n+1) 0)=some (.int .i64 (f:Int)):=u1;have a9:Hid (∀W,Gr g W->gC W (aR b5 0 16 16) rv.toList):=fun W hW=>⟨some (aD b5 0),16,by simp,by simp,.inr ⟨b5,0,rfl,(cS.vec K5).gr hW⟩⟩;have GA:Hid (Gr g g.drew):=(Gr.refl g).drew;have GB:Hid (Gr g (g.alloc (aC (uL eO) 229)).drew):=((Gr.refl g).alloc _).drew;have KB:Hid (HB ((g.alloc (aC (uL eO) 229)).drew) (g.heap.size) (uL eO) 229):=cM g _
 have u4:(g.alloc (aC (uL eO) 229)).drew.cell? (aD (n+1) 0)=some (.int .i64 (f:Int)):=(GB.cell u2).trans u1;have u5:n+1<(g.alloc (aC (uL eO) 229)).drew.heap.size:=dQ u2 GB.size;obtain⟨m2,a6⟩:=ex g.heap.size;rw[a6]at KB;apply zQ (R:=fun x W'=>Hid (HB W' x (bC G) 229)/\Hid (Gr g W')/\m2<=x)
 case h=>
  go_region_law (first
   |(go_simp;go_at_call 135;refine bA (ab _ _ (a9 _ (by first|exact GA|exact GB))) fun w3 g3=>?_;have E:=aA ((show Gr g _ by first|exact GA|exact GB).trans g3);obtain⟨k3,a4⟩:∃k3,w3.heap.size=k3:=⟨_,rfl⟩;have KC:HB (w3.alloc (aC (uL eO) 229)) k3 (uL eO) 229:=aY _ _ _ a4.symm;have v0:=aP KC 0 16 (by simp[dJ,jf]);have v1:=bE KC 0 16;have v2:=aI KC;(try (have KD:=(g3.block (aI KB)).trans KB;have y0:=aP KD 0 16 (by simp[dJ,jf]);have y1:=bE KD 0 16;have y2:=aI KD)))
   |fail)
  all_goals first
   |exact⟨_,⟨bO KD (by rw[dJ,jf,c5]),E.setsOwn (b:=m2) (by omega) _ 0,aU _⟩,rfl⟩
   |exact⟨_,⟨bO KC (by rw[dJ,jf,c5]),(E.alloc _).setsOwn (b:=k3) (by have:=E.size;omega) _ 0,by have:=E.size;omega⟩,rfl⟩
   |exact⟨_,⟨aY _ _ _ a4.symm,E.alloc _,by have:=E.size;omega⟩,rfl⟩
 rintro s W6 ⟨K6,G6,ag⟩;have GX:=aA (G2.trans G6);have a2:=aA (show J.heap.size<=s by have:=G2.size;omega)
 have ac:Hid (∀V,Gr J V->bX V (.slice a l.length c) 16 (l.map bC)):=fun V r=>bX.gr HP (HG.trans r);have aj:=aA (show n+1+1<s by have:=aI H2;have:=a2.out;omega)
 have X:Hid (l.length<=8):=ae;go_wp2_with fail
 go_loopw [7] (fun j wr=>∃k:Nat,k<=l.length/\j=.int .i64 (k:Int)/\Hid (HB wr s (bC (gQ f 0 G (l.take k))) 229)/\Hid (Gr J wr)) (fun j _=>l.length-(intOf j).toNat)
 .exact⟨0,bW _,rfl,K6,GX⟩
 .
  obtain⟨k,hk,rfl,hA,hG⟩:=hrel;have HF:Hid (∀V,Gr wr V->V.cell? (aD (n+1) 0)=some (.int .i64 (f:Int))/\V.cell? (aD (n+1) 561)=some (.slice a l.length c)/\n+1<V.heap.size/\hasRow V (aD s 0) 16=true/\rowAt V (aD s 0) 16=bC (gQ f 0 G (l.take k))/\s<V.heap.size/\gz V (aD s 0) 16=true):=by
   intro V r;have Q:=((hG.trans r).block (aI H)).trans H;have k6:=(r.block (aI hA)).trans hA;obtain⟨r0,r1,r2⟩:=dL 16 (aO _) k6;exact⟨(tu Q).1,(tu Q).2,aI Q,r0,r1,r2,bE k6 0 16⟩
  by_cases a5:k<l.length
  .have q1:(k:Int)<(l.length:Int):=by omega
   have q2:=nn k
   have q3:(k:Int)<=63:=by have:=X.out;omega
   have q4:IntKind.i64.wrap ((k:Int)+1)=((k+1:Nat):Int):=by rw[cV];have:=X.out;omega
   have o:=aA (aa k a5);have Y:Hid (∃K T,a=some (aD K T)/\∀V,Gr wr V->hasRow V (aD K (T+k*16)) 16=true/\rowAt V (aD K (T+k*16)) 16=bC l[k]/\K<V.heap.size):=by
    obtain⟨a1,a3,e1,-,hj⟩:=ac.out wr hG.out;obtain⟨K,T,ha,hb,u1,u2⟩:=hj k (by rw[cL];exact a5);obtain⟨rfl,-,rfl⟩:a=a1/\l.length=(l.map bC).length/\c=a3:=by simpa using e1
    rw[ig]at u2;exact⟨K,T,ha,fun V r=>⟨(r.hasRow hb).trans u1,(r.rowAt hb).trans u2,dQ hb r.size⟩⟩
   obtain⟨K,T,rfl,m⟩:=Y.out;replace m:=aA m;have Z:Hid (∀V,Gr wr V->∀y:aK,HB (V.setCells s 0 (bC y)) s (bC y) 229/\Gr J (V.setCells s 0 (bC y))):=fun V r y=>⟨bO ((r.block (aI hA)).trans hA) (by rw[aO,aO]),(hG.trans r).setsOwn (b:=s) (by have:=a2.out;omega) _ _⟩
   have I:Hid (∀x y:aK,∀W,CG 136 #[.int .i64 ((k+1:Nat):Int),aE (bC x),aE (bC y)] W (aE (bC (ia (k+1) x y)))):=fun x y W=>adi (k+1) x y W;generalize i:gQ f 0 G (l.take (k+1))=p at*
   replace i:=aA i;generalize gQ f 0 G (l.take k)=B at*
   generalize l[k]=D at*
   obtain⟨q,hq⟩:=ex (f/2^k);obtain⟨pk,af⟩:∃pk:Int,(2:Int)^k=pk:=⟨_,rfl⟩;have al:(f:Int)/pk=(q:Int):=by rw[<-hq,<-af];push_cast;rfl
   have a7:kw f k B D=if q%2=1 then(D,B)else(B,D):=by unfold kw;rw[hq]
   rw[a7]at o;have d1:=aO B;have d2:=cZ B;have d3:=aO D;have d4:=cZ D;have d5:=aO p;have d6:=cZ p;obtain⟨Q,N⟩:=ex (k+1);rw[N]at q4 I o i;have U:=aA N;by_cases hr:q%2=1
   focus
    rw[aG hr]at o;have m1:(q:Int).tmod 2=1:=AH (b:=2) (j:=1) hr;have ah:(q:Int)%2=1:=by omega
    obtain⟨f1,f2,f3,f4,f5,f6,f7⟩:=HF.out wr (Gr.refl wr);obtain⟨p1,p2,p3⟩:=m.out wr (Gr.refl wr);have F:=I D B;rw[<-show p=ia Q D B from o.out]at F;replace F:=aA F
   rotate_left
   focus
    rw[aF hr]at o;have a8:q%2=0:=by omega
    have m1:(q:Int).tmod 2=0:=AH (b:=2) (j:=0) a8;have ah:(q:Int)%2=0:=by omega
    obtain⟨f1,f2,f3,f4,f5,f6,f7⟩:=HF.out wr (Gr.refl wr);obtain⟨p1,p2,p3⟩:=m.out wr (Gr.refl wr);have F:=I B D;rw[<-show p=ia Q B D from o.out]at F;replace F:=aA F
   all_goals
    go_wp2_with fail;refine jd 9 (fun u=>∃q:GD,u=gw wr q) (by kernel_rfl) (by kernel_rfl) (nM wr) ?_;simp only[gR,fy,ib,gd];repeat (go_big_quiet_step ((go_at_call 136;with_reducible exact eE (F.out _))))
    refine cX ?_;rintro _ ⟨qq,rfl⟩;obtain⟨s1,s2⟩:=Z.out (gw wr qq) (cK wr qq) p;have S1:=aA s1;have S2:=aA s2;obtain⟨-,-,-,f4,-,f6,f7⟩:=HF.out (gw wr qq) (cK wr qq);generalize gw wr qq=V at*
    go_wp2_with fail;go_roundw
    .exact⟨Q,by have:=U.out;omega,by first|go_num|(congr 1),by rw[i.out];exact S1,S2⟩
    .have:=U.out;simp[intOf];omega
  .obtain rfl:k=l.length:=by omega
   have q1:¬(l.length:Int)<(l.length:Int):=by omega
   obtain⟨f1,f2,f3,f4,f5,f6,f7⟩:=HF.out wr (Gr.refl wr);rw[jS]at f5;generalize hz:gQ f 0 G l=z at*
   have d1:=aO z;have d2:=cZ z;have K2:=(hG.block (aI H2)).trans H2;have z1:=aP K2 0 16 (by rw[aO];decide);have z2:=bE K2 0 16;have z3:=aI K2;have HE:Hid (HB (wr.setCells (n+1+1) 0 (bC z)) (n+1+1) (bC z) 22):=bO K2 (by rw[d1,aO])
   have E:=aA ((HG.trans hG).setsOwn (b:=n+1+1) (by have:=HN.out;omega) (bC z) 0);have HZ:=aA hz;go_wp2_with fail;refine bI (dY rfl _ _ (n+1+1) _ _ _ _ rfl HE underlying22 rfl (by rw[bQ,d1];kernel_rfl)) rfl ?_;exact⟨by first|rfl|(rw[P.out,O.out,HZ.out])|(rw[HZ.out]),E⟩
def R9(b:Int)(e:Nat->aK)(a:dB)(N c:Nat)(w:aB):Calls prog 42 #[aE (aW b e (.slice a N c))] w (RG w (.int .i64 (if 1<=N/\N<=8/\0<=b/\b<2^N then 0 else 2))):=by
 obtain⟨n,E⟩:=ex w.heap.size;obtain⟨k,m,p,-⟩:=gO E (aC (aW b e (.slice a N c)) 32);have D:HB k n (aW b e (.slice a N c)) 32:=by rw[<-m];exact aY _ _ _ E.symm
 have M:Hid ((if 1<=N/\N<=8/\0<=b/\b<2^N then(0:Int)else 2)=if 1<=N/\N<=8/\0<=b/\b<2^N then(0:Int)else 2):=rfl;obtain⟨r,s,-,-,-,-,z⟩:=tu D;generalize H:(aW b e (.slice a N c)).toArray=S at*
 generalize d:(if 1<=N/\N<=8/\0<=b/\b<2^N then(0:Int)else 2)=o at*
 clear H D;by_cases i:1<=N
 case neg=>
  have I:(N:Int)<1:=by omega
  have f:o=2:=by rw[<-d,aF (fun q=>i q.1)]
  subst f;clear i;replace d:=aA d;go_in;go_wp2_with fail;try rw[m]
  go_quiet (fail)
  have g:=aA (p.drewN nq);clear r s z;generalize k.drewN nq=V at*
  go_wp2_with fail;go_ret;exact⟨by first|rfl|(rw[d.out])|simp_all,g⟩
 case pos=>
  have I:¬(N:Int)<1:=by omega
  by_cases l:N<=8
  case neg=>
   have J:(8:Int)<(N:Int):=by omega
   have f:o=2:=by rw[<-d,aF (fun q=>l q.2.1)]
   subst f;clear i l;replace d:=aA d;go_in;go_wp2_with fail;try rw[m]
   go_quiet (fail)
   have g:=aA (p.drewN nq);clear r s z;generalize k.drewN nq=V at*
   go_wp2_with fail;go_ret;exact⟨by first|rfl|(rw[d.out])|simp_all,g⟩
  case pos=>
   have J:¬(8:Int)<(N:Int):=by omega
   have h:wrap64 ((2:Int)^N)=((2^N:Nat):Int):=by
    have F:∀N:Fin 9,wrap64 ((2:Int)^N.val)=((2^N.val:Nat):Int):=by decide+kernel
    exact F ⟨N,by omega⟩
   have O:(N:Int)<=63:=by omega
   obtain⟨Q,B⟩:∃Q:Nat,2^N=Q:=⟨_,rfl⟩;have j:(2:Int)^N=(Q:Int):=by rw[<-B];simp
   have C:wrap64 (Q:Int)=(Q:Int):=by rw[<-j,h,B];exact j.symm
   have G:IntKind.i64.wrap (Q:Int)=(Q:Int):=(rG _).trans C;have v:(if 0<=b/\b<(Q:Int)then(0:Int)else 2)=o:=by
    rw[<-d,j];by_cases u:0<=b/\b<(Q:Int)
    .rw[aG u,aG ⟨i,l,u.1,u.2⟩]
    .rw[aF u,aF (fun q=>u ⟨q.2.2.1,q.2.2.2⟩)]
   clear B h d;have d:=v;clear v;by_cases t:0<=b
   case neg=>
    have K:b<0:=by omega
    have f:o=2:=by rw[<-d,aF (fun q=>t q.1)]
    subst f;clear i l t;replace d:=aA d;go_in;go_wp2_with fail;try rw[m]
    go_quiet (fail)
    have g:=aA (p.drewN nq);clear r s z;generalize k.drewN nq=V at*
    go_wp2_with fail;go_ret;exact⟨by first|rfl|(rw[d.out])|simp_all,g⟩
   case pos=>
    have K:¬b<0:=by omega
    by_cases y:b<(Q:Int)
    case neg=>
     have L:(Q:Int)<=b:=by omega
     have f:o=2:=by rw[<-d,aF (fun q=>y q.2)]
     subst f;clear i l t y;replace d:=aA d;go_in;go_wp2_with fail;try rw[m]
     go_quiet (fail)
     have g:=aA (p.drewN nq);clear r s z;generalize k.drewN nq=V at*
     go_wp2_with fail;go_ret;exact⟨by first|rfl|(rw[d.out])|simp_all,g⟩
    case pos=>
     have L:¬(Q:Int)<=b:=by omega
     have f:o=0:=by rw[<-d,aG ⟨t,y⟩]
     subst f;clear i l t y;replace d:=aA d;go_in;go_wp2_with fail;try rw[m]
     go_quiet (fail)
     have g:=aA (p.drewN nq);clear r s z;generalize k.drewN nq=V at*
     go_wp2_with fail;go_ret;exact⟨by first|rfl|(rw[d.out])|simp_all,g⟩
def Ib(g:Sg)(p:Value)(w:aB)(b:dM w p g.path):Calls prog 42 #[aE (aW g.leaf g.chains p)] w (RG w (.int .i64 (fd g))):=by
 obtain⟨a,c,rfl⟩:=b.shape;exact R9 g.leaf g.chains a g.path.length c w
def Q6(x y:aK):(x != y)= !(x==y):=rfl
def adT(h:Int)(r d:aK)(g:Sg)(p:Value)(w:aB)(P:dM w p g.path):Calls prog 43 #[.int .i64 h,aE (bC r),aE (bC d),aE (aW g.leaf g.chains p)] w (RG w (.int .i64 (kj h r d g))):=by
 obtain⟨n,hn⟩:=ex w.heap.size;obtain⟨a,c,f⟩:=id P.shape;have b1:=d_ g.leaf g.chains p;have b2:cN (aW g.leaf g.chains p)=true:=by rw[f];exact mn _ _ _ _ _
 obtain⟨S,y⟩:=ex (aW g.leaf g.chains p);obtain⟨b,C,k,X,Y,-⟩:=jP hn (aC (bC r) 22) (aC (bC d) 22) (aC S 32)
 have Z:Hid (HB b (n+1+1) (aW g.leaf g.chains p) 32):=by
  show _=_;rw[<-C,y];exact aY _ _ _ (by simp;omega)
 have u:Hid (∀W,Gr b W->CG 42 #[aE S] W (.int .i64 (fd g))):=fun W hW=>by
  have:=Ib g p W (bX.gr P (k.trans hW));rw[y]at this;exact this
 have a1:Hid (fd g=0->∀W,Gr b W->CG 80 #[aE (bC d),aE S] W (aE (bC (kS d g)))):=fun h0 W hW=>by
  unfold fd at h0;by_cases T:1<=g.path.length/\g.path.length<=8/\0<=g.leaf/\g.leaf<2^g.path.length
  .obtain⟨m,hm⟩:∃m:Nat,g.leaf=(m:Int):=⟨g.leaf.toNat,by omega⟩
   have z:m<256:=by
    have v:(m:Int)<2^g.path.length:=by rw[<-hm];exact T.2.2.2
    have t:∀N:Fin 9,(2:Int)^N.val<=256:=by decide+kernel
    have i:=t ⟨g.path.length,by omega⟩;have h4:(2:Int)^g.path.length<=256:=i;have h5:=Int.lt_of_lt_of_le v h4;exact Int.ofNat_lt.1 h5
   obtain⟨a4,e,l⟩:=g;simp only at hm T y f P;subst hm;have:=abj m z d e l a c T.2.1 W (by have:=bX.gr P (k.trans hW);rw[f]at this;exact this);rw[<-f,y]at this;exact this
  .rw[aF T]at h0;cases h0
 have HV:Hid (kj h r d g=if ¬(1<=h/\h<=8)then 2 else if fd g≠0 then fd g else if(g.path.length:Int)≠h\/kS d g≠r then 17 else 0):=rfl;have R:Hid (∀V,Gr b V->hasRow V (aD n 0) 16=true/\rowAt V (aD n 0) 16=bC r/\hasRow V (aD (n+1) 0) 16=true/\rowAt V (aD (n+1) 0) 16=bC d/\hasRow V (aD (n+1+1) 0) 562=true/\rowAt V (aD (n+1+1) 0) 562=S/\V.cell? (aD (n+1+1) 561)=some (.slice a g.path.length c)/\n<V.heap.size/\n+1<V.heap.size/\n+1+1<V.heap.size):=by
  intro V hV;have k0:=(hV.block (aI X)).trans X;have k1:=(hV.block (aI Y)).trans Y;have k2:=(hV.block (aI Z)).trans Z;obtain⟨r0,r1,r2⟩:=dL 16 (aO r) k0;obtain⟨s0,s1,s2⟩:=dL 16 (aO d) k1;obtain⟨t1,t2,-,-,t5,t6,t7⟩:=tu k2;rw[y]at t6;rw[f]at t2;exact⟨r0,r1,s0,s1,t5,t6,t2,r2,s2,t7⟩
 generalize g.path.length=N at*
 rw[HV.out];rw[y]at b1 b2|-
 generalize kS d g=Q at*
 generalize fd g=se at*
 by_cases v:1<=h/\h<=8
 case neg=>
  rw[aG v];by_cases a2:h<1
  case pos=>
   go_in;go_wp2_with fail;go_ret;exact⟨rfl,by first|exact k|(rw[C];exact k)⟩
  case neg=>
   have a3:8<h:=by omega
   go_in;go_wp2_with fail;go_ret;exact⟨rfl,by first|exact k|(rw[C];exact k)⟩
 case pos=>
  rw[aF (fun q=>q v)];have a2:¬h<1:=by omega
  have a3:¬8<h:=by omega
  by_cases t:se=0
  case neg=>
   rw[aG t];have i1:(se==0)=false:=dI.2 t;have i2:(se != 0)=true:=by simp[t]
   obtain⟨F,G,H,I,J,K,L,M,O,j⟩:=R.out b (Gr.refl b);replace t:=aA t;go_in;go_wp2_with fail;try rw[C]
   refine bA (u b (Gr.refl b)) fun o s=>?_;go_wp2_with fail;go_ret;exact⟨rfl,k.trans s⟩
  case pos=>
   subst t;rw[aF (fun q=>q rfl)];have D:=aA (a1 rfl);obtain⟨F,G,H,I,J,K,L,M,O,j⟩:=R.out b (Gr.refl b);by_cases i:(N:Int)=h
   case neg=>
    rw[aG (.inl i)];have i1:((N:Int) != h)=true:=by simp[i]
    have i2:((N:Int)==h)=false:=dI.2 i;replace i:=aA i;go_in;go_wp2_with fail;try rw[C]
    refine bA (u b (Gr.refl b)) fun o s=>?_;clear F G H I J K L M O j;obtain⟨F,G,H,I,J,K,L,M,O,j⟩:=R.out o s;go_wp2_with fail;refine ej (by kernel_rfl) (by kernel_rfl) ?_;repeat (go_big_quiet_step (fail))
    refine cX ?_;rintro _ ⟨q,rfl⟩;go_wp2_with fail;go_ret;exact⟨rfl,(k.trans s).trans (cK o q)⟩
   case pos=>
    have i1:((N:Int) != h)=false:=by simp[i]
    have i2:((N:Int)==h)=true:=by simp[i]
    replace i:=aA i;generalize B:(Q==r)=rr at*
    have a5:(Q != r)= !rr:=by rw[Q6,B]
    have HZ:Hid ((if(N:Int)≠h\/Q≠r then(17:Int)else 0)=if rr=true then 0 else 17):=by
     show _=_;by_cases U:Q=r
     .rw[aF (fun q=>q.elim (fun q=>q i.out) (fun q=>q U)),aG (by rw[<-B];simp[U])]
     .rw[aG (.inr U),aF (by rw[<-B];simpa using U)]
    rw[HZ.out]
    cases rr
    all_goals
     go_in;go_wp2_with fail;try rw[C]
     refine bA (u b (Gr.refl b)) fun o s=>?_;clear F G H I J K L M O j;obtain⟨F,G,H,I,J,K,L,M,O,j⟩:=R.out o s;have E:Hid (∀q:GD,CG 80 #[aE (bC d),aE S] (gw o q) (aE (bC Q))):=fun q=>D _ (s.trans (cK o q));go_wp2_with fail;refine ej (by kernel_rfl) (by kernel_rfl) ?_;repeat (go_big_quiet_step ((go_at_call 80;with_reducible exact eE (E.out _))))
     refine cX ?_;rintro _ ⟨q,rfl⟩;go_wp2_with fail;go_ret;exact⟨by first|rfl|simp,(k.trans s).trans (cK o q)⟩
end Go.Proofs.YtjfaogajmoffoaaGreatDoor
