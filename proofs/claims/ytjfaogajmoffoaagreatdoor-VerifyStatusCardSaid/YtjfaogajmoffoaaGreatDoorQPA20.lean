/- Lemmas for VerifyStatus. -/
import Derived.Test.YtjfaogajmoffoaaGreatDoorQPA19
set_option maxRecDepth 100000
set_option maxHeartbeats 16000000
set_option linter.all false
namespace Go.Proofs.YtjfaogajmoffoaaGreatDoor
open Go.RowKit Tryz
@[go_sem] def aeo:dZ prog 121 =true:=by kernel_rfl
@[go_sem] def aeO:prog.cellsOf 121 =51:=by kernel_rfl
@[go_sem ↓ high] def agt (w:aB):Sem.run prog (zeroValue 121) w=.ok (aE (cR qU)) w:=by kernel_rfl
def UB(f:Nat->Value)(n l:Int)(w:aB):(Instr.build 121 #[(0,.int .i64 n),(1,aE ((List.range 17).map f)),(2,.int .i64 l)]).run prog w
  =.ok (aE (Value.int .i64 n::((List.range 17).map f++(Value.int .i64 l::bC bM)))) w:=by kernel_rfl
@[go_sem] def agx (n h:Int) (r:aK) (l:Int) (w:aB):eG prog 121 #[(0,.int .i64 n),(1,aE (aN h r)),(2,.int .i64 l)] w=.ok (.value (aE (cR ⟨n,h,r,l,bM⟩))) w:=fe (by
 unfold cR;rw[gi (aN h r) 17 (bG h r)];exact UB _ n l w)
@[go_sem ↓] def afP {P:Program} (b:Operand->Value) (d:Option Tmp) (a:Array (Nat×Operand)) (e:TypeId) (p:String) (c:Array Edge) (g:Option (Nat×Bool)) (w:aB):
  Sem.run P (execOp b ⟨d,.buildSlice 118 1 a,e,p,c,g⟩) w=jI P 118 1 (a.map fun x=>(x.1,b x.2)) w:=rfl
def VY(f:Nat->Value)(w:aB):(Instr.buildSlice 118 1 #[(0,aE ((List.range 51).map f))]).run prog w=.ok (aR (w.heap.size) 0 1 1) (w.alloc (aC ((List.range 51).map f) 121)):=by kernel_rfl
@[go_sem] def agQ (y:Ky) (w:aB):jI prog 118 1 #[(0,aE (cR y))] w=.ok (.value (aR (w.heap.size) 0 1 1)) (w.alloc (aC (cR y) 121)):=qc (by
 rw[gi (cR y) 51 (mF y)];exact VY _ w)
def Ho:om 118 121 51 72:=rE underlying118 (by kernel_rfl) (aH rfl) (aH rfl)
structure oz(L:List Rl)(a:aK)(B:Nat)(w:aB)(k:Nat)(wr:aB):Prop where
 ha:wr.heap[B]? =some (aC (bC a) 22)
 hp:wr.heap[B+1]? =some (aC (gy (iz L a k)) 73)
 g:Gr w wr
def oz.gr{L:List Rl}{a:aK}{B k:Nat}{w W V:aB}(h:oz L a B w k W)(b:Gr W V):oz L a B w k V:=
 ⟨(b.block (aI h.ha)).trans h.ha,(b.block (aI h.hp)).trans h.hp,h.g.trans b⟩
def oz.skip{L:List Rl}{a:aK}{B k:Nat}{w W:aB}(h:oz L a B w k W)(e:iz L a (k+1)=iz L a k):oz L a B w (k+1) W:=⟨h.ha,by rw[e];exact h.hp,h.g⟩
def oz.put{L:List Rl}{a:aK}{B k:Nat}{w W:aB}{p:Pk}(h:oz L a B w k W)(c:w.heap.size=B)(e:iz L a (k+1)=p):oz L a B w (k+1) (W.setCells (B+1) 0 (gy p)):=
 ⟨by rw[cD (by omega)];exact h.ha,by rw[e];exact bO h.hp (by rw[pL,pL]),h.g.setsOwn (b:=B+1) (by omega) (gy p) 0⟩
def GC(x:Ky):(cR x)[18]? =some (.int .i64 x.lim):=by
 unfold cR;show(aN x.h x.r++(.int .i64 x.lim::bC x.next))[17]? =_
 rw[eY (aN x.h x.r) _ 17 17 (bG _ _) (aU _)];rfl
def Wv(L:List Rl)(v:Value)(a:aK)(w:World)(hv:bX w v 84 (L.map bK))(hl:L.length<=900):Calls prog 50 #[v,.agg (bC a).toArray] w fun e w'=>∃v',e=.returned v'/\bX w' v' 51 ((chain L a).map cR)/\(chain L a).length<=1000/\Gr w w':=by
 obtain⟨ad,bp,rfl,hc,hj⟩:=id hv;rw[cL]at hc|-
 have HV:=aA hv;obtain⟨B,hB⟩:=ex w.heap.size;have J:=aA hB;obtain⟨U0,hU⟩:=ex ((w.alloc (aC (bC a) 22)).alloc (aC (aN 0 aQ) 73));have H0:Hid (oz L a B w 0 U0):=by
  refine⟨?_,?_,?_⟩
  .rw[<-hU];exact(((Gr.refl _).alloc _).block (by simp;omega)).trans (aY _ _ _ (by omega))
  .rw[<-hU];exact aY _ _ _ (by simp;omega)
  .rw[<-hU];exact((Gr.refl w).alloc _).alloc _
 have d1:=aO a;clear hj hv
 have an:Hid (∀k (hk:k<L.length),∃b0 o0,ad=some ⟨b0,o0,none⟩/\∀V,Gr w V->yT V b0 (o0+k*84) L[k]/\b0<V.heap.size):=fun k hk=>by
  obtain⟨a1,bq,e1,-,hj⟩:=HV.out;obtain⟨b0,o0,ha,hb,u1,u2⟩:=hj k (by rw[cL];exact hk);obtain⟨rfl,-,rfl⟩:ad=a1/\L.length=(L.map bK).length/\bp=bq:=by simpa using e1
  rw[ig]at u2;exact⟨b0,o0,ha,fun V hV=>⟨vA ((hV.hasRow hb).trans u1) ((hV.rowAt hb).trans u2),dQ hb hV.size⟩⟩
 have ap:=aA (Xa L a);have aq:=aA (Ot L a);go_in;go_wp2_with fail;try simp only[hB]
 try rw[hU]
 replace hU:=aA hU;replace hB:=aA hB
 go_loopw [6,7] (fun f i wr=>∃k:Nat,k<=L.length/\f=.bool (o5 L a k)/\i=.int .i64 (k:Int)/\Hid (oz L a B w k wr)) (fun _ i _=>L.length-(intOf i).toNat)
 .exact⟨0,bW _,rfl,rfl,H0⟩
 .
  obtain⟨k,hk,rfl,rfl,R⟩:=hrel;clear H0;by_cases b6:k<L.length
  .have q1:(k:Int)<(L.length:Int):=by omega
   have q2:=nn k
   obtain⟨b0,o0,rfl,d⟩:=an.out k b6;have z:=d wr R.g;have e1:=z.1.a0;have e2:=z.1.a1;have e3:=z.1.n;have e4:=z.1.p0;have e5:=z.1.p1;obtain⟨x0,x1,x2⟩:=dL 16 d1 R.out.ha;obtain⟨x3,x4,x5⟩:=dL 17 (pL (iz L a k)) R.out.hp;have l3:=bG L[k].h L[k].r;have l4:=h_ L[k].h L[k].r;have bg:Hid (∀W,CG 92 #[.agg (aN L[k].h L[k].r).toArray,.agg (gy (iz L a k)).toArray] W (.bool (decide (jr (eW L[k]) (iz L a k)<0)))):=fun W=>Pf L[k].h L[k].r (iz L a k).1 (iz L a k).2 W;have bj:=aA (ap k b6);have bw:=aA (aq k b6);generalize c8:L[k].at_.a=ya at*
   generalize c9:L[k].at_.n=yn at*
   cases c1:(ya==a)with
   |false=>
    have hs:=bj (fun q=>by rw[q.1]at c1;simp at c1);go_wp2_with fail;refine ej (by kernel_rfl) (by kernel_rfl) ?_;repeat (go_big_quiet_step (fail))
    refine cX ?_;rintro _ ⟨q,rfl⟩;have l:=aA (R.gr (cK wr q));clear e1 e2 e3 e4 e5 x0 x1 x2 x3 x4 x5 z;generalize gw wr q=V at*
    clear d;go_wp2_with fail;go_roundw
    .exact⟨k+1,by omega,by rw[hs.2],by go_num,l.skip hs.1⟩
    .simp[intOf];omega
   |true=>
   cases c3:(yn==0)with
   |false=>
    have hs:=bj (fun q=>by rw[q.2]at c3;simp at c3);go_wp2_with fail;refine ej (by kernel_rfl) (by kernel_rfl) ?_;repeat (go_big_quiet_step (fail))
    refine cX ?_;rintro _ ⟨q,rfl⟩;have l:=aA (R.gr (cK wr q));clear e1 e2 e3 e4 e5 x0 x1 x2 x3 x4 x5 z;generalize gw wr q=V at*
    clear d;go_wp2_with fail;go_roundw
    .exact⟨k+1,by omega,by rw[hs.2],by go_num,l.skip hs.1⟩
    .simp[intOf];omega
   |true=>
    have ht:=bw ⟨by simpa using c1,by simpa using c3⟩
    cases c5:o5 L a k with
    |false=>
     have b7:iz L a (k+1)=eW L[k]:=by rw[ht.2,c5,aG rfl]
     go_wp2_with fail;refine ej (by kernel_rfl) (by kernel_rfl) ?_;repeat (go_big_quiet_step (fail))
     refine cX ?_;rintro _ ⟨q,rfl⟩;have l:=aA (R.gr (cK wr q));clear e1 e2 e3 e4 e5 x0 x1 x2 x3 x4 x5 z;generalize gw wr q=V at*
     have x:=d V l.g;have e4:=x.1.p0;have e5:=x.1.p1;have x3:=aP l.hp 0 17 (by rw[pL];decide);have x4:=bE l.hp 0 17;have x5:=aI l.hp;have ax:Hid (oz L a B w (k+1) (V.setCells (B+1) 0 (aN L[k].h L[k].r))):=l.put (p:=eW L[k]) J b7;have b5:=aA ht.1;clear d x;go_wp2_with fail;go_roundw
     .exact⟨k+1,by omega,by rw[b5.out],by go_num,ax⟩
     .simp[intOf];omega
    |true=>
     by_cases ag:jr (eW L[k]) (iz L a k)<0
     .have b7:iz L a (k+1)=eW L[k]:=by rw[ht.2,c5,aF (by decide),aG ag]
      have i5:decide (jr (eW L[k]) (iz L a k)<0)=true:=fm ag;go_wp2_with fail;refine ej (by kernel_rfl) (by kernel_rfl) ?_;repeat (go_big_quiet_step ((go_at_call 92;with_reducible exact eE (bg.out _))))
      refine cX ?_;rintro _ ⟨q,rfl⟩;have l:=aA (R.gr (cK wr q));clear e1 e2 e3 e4 e5 x0 x1 x2 x3 x4 x5 z;generalize gw wr q=V at*
      have x:=d V l.g;have e4:=x.1.p0;have e5:=x.1.p1;have x3:=aP l.hp 0 17 (by rw[pL];decide);have x4:=bE l.hp 0 17;have x5:=aI l.hp;have ax:Hid (oz L a B w (k+1) (V.setCells (B+1) 0 (aN L[k].h L[k].r))):=l.put (p:=eW L[k]) J b7;have b5:=aA ht.1;clear d x;go_wp2_with fail;go_roundw
      .exact⟨k+1,by omega,by rw[b5.out],by go_num,ax⟩
      .simp[intOf];omega
     .have hs:iz L a (k+1)=iz L a k/\o5 L a (k+1)=true:=⟨by rw[ht.2,c5,aF (by decide),aF ag],ht.1⟩
      have i5:decide (jr (eW L[k]) (iz L a k)<0)=false:=eL ag;go_wp2_with fail;refine ej (by kernel_rfl) (by kernel_rfl) ?_;repeat (go_big_quiet_step ((go_at_call 92;with_reducible exact eE (bg.out _))))
      refine cX ?_;rintro _ ⟨q,rfl⟩;have l:=aA (R.gr (cK wr q));clear e1 e2 e3 e4 e5 x0 x1 x2 x3 x4 x5 z;generalize gw wr q=V at*
      clear d;go_wp2_with fail;go_roundw
      .exact⟨k+1,by omega,by rw[hs.2],by go_num,l.skip hs.1⟩
      .simp[intOf];omega
  .obtain rfl:k=L.length:=by omega
   have q1:¬(L.length:Int)<(L.length:Int):=by omega
   have bf:Hid (chain L a=[]++mm L a 0 (o5 L a L.length) (iz L a L.length)):=by
    show _=_;rw[G_];unfold o5 iz;rw[jS]
    cases jC L a 0<;>rfl
   have al:=aA (NT L a);generalize o5 L a L.length=fb at*
   have C0:Hid (wr.heap[B]? =some (aC (bC a) 22)):=R.ha
   have Q0:Hid (wr.heap[B+1]? =some (aC (gy (iz L a L.length)) 73)):=R.hp
   have GX:Hid (Gr w wr):=R.g;generalize iz L a L.length=p0 at*
   obtain⟨F,b2⟩:=ex wr.heap.size;have bv:=aA b2;have aw:Hid (B+1<F):=b2▸aI Q0
   clear b2 R ap aq;go_wp2_with fail;generalize wr=ca at*
   go_loopw [6,8,9] (fun f v i wr=>∃(m:Nat) (ok:Bool) (p:Pk) (s:List Ky) (a':Option Addr) (c':Nat),f=.bool ok/\v=.slice a' m c'/\i=.int .i64 (m:Int)/\s.length=m/\Hid (Gr w wr)/\Hid (wr.heap[B]? =some (aC (bC a) 22))/\Hid (wr.heap[B+1]? =some (aC (gy p) 73))/\Hid (c_ 121 51 wr F (.slice a' m c') (s.map cR))/\Hid (chain L a=s++mm L a m ok p)/\Hid (F<=wr.heap.size)) (fun f v _ _=>rp L (GO v) (MT f))
   .exact⟨0,fb,p0,[],none,0,rfl,rfl,rfl,rfl,GX,C0,Q0,c_.nil _ _ _ _,bf,by show _<=_;rw[bv.out];exact aU _⟩
   .
    obtain⟨m,ok,p,s,a2,c2,rfl,rfl,rfl,Y,hG,hA,hQ,hO,af,b3⟩:=hrel;clear C0 Q0 GX bf
    cases ok with
    |false=>
     have HE:=aA (show chain L a=s by rw[af.out];show s++[]=s;exact je _)
     go_wp2_with fail;go_ret;refine⟨_,rfl,?_,?_,hG⟩
     .rw[HE.out];exact hO.sl
     .have:=al.out;omega
    |true=>
     obtain⟨h,r⟩:=p;have K:=aA (JW L a m (h,r));have az:=aA (Lt L a m (h,r));have ay:Hid (mU L a m (h,r)=if ed L a m (h,r)=[]then⟨(m:Int),h,r,-1,bM⟩else⟨(m:Int),h,r,(least fZ ep (ed L a m (h,r))).leaf,(least fZ ep (ed L a m (h,r))).id⟩):=rfl;have bh:Hid (uu L a m (h,r)=((least fZ ep (ed L a m (h,r))).nh,(least fZ ep (ed L a m (h,r))).nr)):=rfl;have S:=aA Y;have c7:m<=901:=by
      have h1:=al.out;rw[af.out,bV,Y]at h1;omega
     have ak:Hid (∀W,Gr w W->Calls prog 93 #[.slice ad L.length bp,.agg (bC a).toArray,.int .i64 (m:Int),.agg (aN h r).toArray] W fun e w'=>(∃b:Int,e=.returned (.int .i64 b)/\iC L a m (h,r) L.length b)/\Gr W w'):=fun W hW=>by
      have br:=bX.gr HV hW;rw[cL]at br;have:=acM L _ a m h r W br (by omega);exact this
     clear Y;have M:Hid (wr.heap[B+1]? =some (aC (aN h r) 73)):=hQ
     have aj:Hid (B+1<wr.heap.size):=aI M;obtain⟨c,Z⟩:=ex wr.heap.size;have ai:=aA Z;have KZ:(wr.alloc (aC (cR qU) 121)).heap[c]? =some (aC (cR qU) 121):=aY _ _ _ Z.symm
     have KL:(cR qU).length=51:=mF _;have D1:=mF ⟨(m:Int),h,r,-1,bM⟩;have ba:=ss ⟨(m:Int),h,r,-1,bM⟩;have z0:=aP KZ 0 51 (by rw[KL];decide);have z1:=bE KZ 0 51;obtain⟨W4,X⟩:=ex ((wr.alloc (aC (cR qU) 121)).setCells c 0 (cR ⟨(m:Int),h,r,-1,bM⟩));have G4:Hid (Gr wr W4):=X▸((Gr.refl wr).alloc _).setsOwn (b:=c) (by omega) _ _
     have K4:Hid (W4.heap[c]? =some (aC (cR ⟨(m:Int),h,r,-1,bM⟩) 121)):=X▸bO KZ (by rw[D1,KL])
     obtain⟨x3,x4,x5⟩:=dL 17 (bG h r) M.out;have e1:=bG h r;have e2:=h_ h r;have g4:=G4.out;obtain⟨r0,r1,r2⟩:=dL 16 d1 ((g4.block (aI hA.out)).trans hA.out);obtain⟨r3,r4,r5⟩:=dL 17 (bG h r) ((g4.block (aI M.out)).trans M.out);have be:=aA (ak W4 (hG.trans g4));clear KZ g4 ak;go_wp2_with fail;clear z0 z1 x3 x4 x5 r0 r1 r2 r3 r4 r5;try rw[X]
     replace X:=aA X;refine be.mono ?_;rintro e I ⟨⟨b,rfl,a4⟩,g5⟩;have G5:=aA (G4.trans g5);have K5:=aA ((g5.block (aI K4)).trans K4);have Q5:=aA ((G5.block (aI M)).trans M);have A5:=aA ((G5.block (aI hA)).trans hA);have a8:=aA (hG.trans G5);have ac:=aA (hO.gr G5);have bk:Hid (F<=I.heap.size):=eu b3 G5.size;have y:Hid (B<c/\B+1<c/\F<=c/\B+1<F):=by
      have h1:=ai.out;have h2:=aj.out;have h3:=b3.out;have h4:=aw.out;exact⟨by omega,by omega,by omega,h4⟩
     have am:Hid (∀k,(Value.slice a2 m c2).ownBlock=some k->k≠c/\k≠B+1):=fun k hk=>by
      have h1:=hO.own hk;have h2:=ai.out;have h3:=y.out;exact⟨by omega,by omega⟩
     have av:=aA (show (s.map cR).length=m by rw[cL];exact S)
     obtain⟨b8,a7⟩:=ex (s.map cR);rw[a7]at av ac;have ao:=aA a7;clear a7 Z hA hQ M hO hG G4 K4 G5 g5 aj be b3;have hbb:=a4;unfold iC at hbb;rw[jS]at hbb;clear a4;rcases hbb with⟨hb,hE⟩|⟨j,hj,hb,-,hE,b4⟩
     .subst hb
      have H:=aA hE;clear hE;have G:=aA (show mU L a m (h,r)=⟨(m:Int),h,r,-1,bM⟩ by rw[ay.out,aG H.out])
      have C:=aA (show mm L a m true (h,r)=mU L a m (h,r)::mm L a (m+1) false (uu L a m (h,r)) by rw[K.out,show decide (ed L a m (h,r)≠[])=false from by simp[H.out]])
      have T:Hid (rp L (m+1) false<rp L m true):=by have:=az.out;rw[show decide (ed L a m (h,r)≠[])=false from by simp[H.out]]at this;exact this
      have D5:=mF ⟨(m:Int),h,r,-1,bM⟩;have D6:=ss ⟨(m:Int),h,r,-1,bM⟩;obtain⟨y0,y1,y2⟩:=dL 51 D5 K5.out;obtain⟨E,a5⟩:=ex (⟨(m:Int),h,r,-1,bM⟩:Ky);rw[a5]at G D5 D6 y1;have X9:=aA (aY I (aC (cR E) 121) _ rfl);have O9:=aA (ac.gr ((Gr.refl I).alloc (aC (cR E) 121)));have Z9:=aA (show F<=(I.alloc (aC (cR E) 121)).heap.size by have h1:=bk.out;simp;omega)
      clear a5 D1 ba;go_wp2_with (at_builtin;refine uh Ho _ rfl (.tmp 83) (.tmp 85) rfl F (.slice a2 m c2) b8 (by simp[Act.eval]) O9 I.heap.size (cR E) (by simp[Act.eval]) X9 D5 D6 (m+1) ?g1 ?g2 Z9 ?_)
      case g1=>rw[av.out]
      case g2=>omega
      intro a3 c3 w3 a6 D _;have au:Hid (Gr I (I.alloc (aC (cR E) 121))):=(Gr.refl I).alloc _
      have u:Hid (∀(q:Nat) (o:Obj),q<F->I.heap[q]? =some o->w3.heap[q]? =some o):=fun q o hq ho=>by
       refine(D.block q ?_ (fun e=>?_)).trans ((au.block (aI ho)).trans ho)
       .have:=aI ho;simp;omega
       .have h1:=(O9.own e.symm).1;omega
      have G3:Hid (Gr w w3):=(a8.alloc _).grown D (fun k hk=>by have h1:=(O9.own hk).1;have h2:=y.out;have h3:=J.out;omega);have O3:Hid (c_ 121 51 w3 F (.slice a3 (m+1) c3) ((s++[E]).map cR)):=by
       show c_ _ _ _ _ _ _;rw[gD,ao.out];exact a6
      have A3:=aA (u B _ (by have h2:=y.out;omega) A5);have Q3:=aA (u (B+1) _ (by have h2:=y.out;omega) Q5);have ar:Hid (chain L a=(s++[E])++mm L a (m+1) false (h,r)):=by
       show _=_;rw[af.out,C.out,G.out,fl];rfl
      have Z3:Hid (F<=w3.heap.size):=eu Z9 D.size;have L3:=aA (show (s++[E]).length=m+1 by rw[bV,S.out];rfl)
      clear a6 D y0 y1 y2;go_wp2_with fail;go_roundw
      .exact⟨m+1,false,(h,r),s++[E],a3,c3,rfl,rfl,by go_num,L3,G3,A3,Q3,O3,ar,Z3⟩
      .exact T
     .subst hb
      have H:=aA hE;clear hE;obtain⟨t,ah⟩:=ex (least fZ ep (ed L a m (h,r)));rw[ah]at b4;have G:=aA (show mU L a m (h,r)=⟨(m:Int),h,r,t.leaf,t.id⟩ by rw[ay.out,aF H.out,ah])
      have bi:=aA (show uu L a m (h,r)=(t.nh,t.nr) by rw[bh.out,ah])
      have C:=aA (show mm L a m true (h,r)=mU L a m (h,r)::mm L a (m+1) true (t.nh,t.nr) by rw[K.out,bi.out,show decide (ed L a m (h,r)≠[])=true from by simp[H.out]])
      have T:Hid (rp L (m+1) true<rp L m true):=by have:=az.out;rw[show decide (ed L a m (h,r)≠[])=true from by simp[H.out]]at this;exact this
      obtain⟨b0,o0,rfl,d⟩:=an.out j hj;rw[b4]at d;have U:=aA d;clear d b4 ah K az ay bh H;have i1:(j:Int)<(L.length:Int):=by omega
      have i2:=nn j
      have D5:=cC t.id;have D6:=gE t.id;have D7:=bG t.nh t.nr;have D8:=h_ t.nh t.nr;obtain⟨V1,N⟩:∃V,I.drew.setCell ⟨c,18,none⟩ (.int .i64 t.leaf)=V:=⟨_,rfl⟩;obtain⟨V2,O⟩:∃V,V1.setCells c 19 (bC t.id)=V:=⟨_,rfl⟩;obtain⟨Q,P⟩:∃V,V2.setCells (B+1) 0 (aN t.nh t.nr)=V:=⟨_,rfl⟩;have a9:I.drew.heap[c]? =some (aC (cR ⟨(m:Int),h,r,-1,bM⟩) 121):=K5
      have bn:I.drew.heap[B+1]? =some (aC (aN h r) 73):=Q5
      obtain⟨ab,b1⟩:B+1≠c/\B≠c:=by have h2:=y.out;exact⟨by omega,by omega⟩
      have aa:V1.heap[c]? =some (aC (cR ⟨(m:Int),h,r,t.leaf,bM⟩) 121):=by rw[<-N,fC _ c 18 _ _ _ a9,Nk]
      have bo:V1.heap[B+1]? =some (aC (aN h r) 73):=by rw[<-N];exact(cG _ ⟨c,18,none⟩ (B+1) _ (fun e=>ab e)).trans bn
      have bm:V2.heap[c]? =some (aC (cR ⟨(m:Int),h,r,t.leaf,t.id⟩) 121):=by rw[<-O];exact LH aa
      have ae:V2.heap[B+1]? =some (aC (aN h r) 73):=by rw[<-O];exact(cD (fun e=>ab e) _ _ _).trans bo
      have bb:Hid (Gr w I.drew):=a8.drew;have bc:Hid (Gr w V1):=N▸bb.out.setOwn (b:=c) (o:=18) (by have h2:=y.out;have h3:=J.out;omega) _
      have bd:Hid (Gr w V2):=O▸bc.out.setsOwn (b:=c) (by have h2:=y.out;have h3:=J.out;omega) _ _
      have bu:Hid (Gr w Q):=P▸bd.out.setsOwn (b:=B+1) (by have h3:=J.out;omega) _ _
      obtain⟨-,-,f1,f2,-,-,-,-,-,f3,f4,f5⟩:=(U.out I a8.out).1;obtain⟨-,-,g1,g2,-,-,-,-,-,g3,g4,g5⟩:=(U.out I.drew bb.out).1;obtain⟨-,-,p1,p2,-,-,-,-,-,p3,p4,p5⟩:=(U.out V1 bc.out).1;obtain⟨-,-,j1,j2,-,-,-,-,-,j3,j4,j5⟩:=(U.out V2 bd.out).1;have s2:=ee a9 18;have s5:I.drew.cell? ⟨c,18,none⟩=some (.int .i64 (-1)):=(bH a9 18).trans (GC _);have t1:=aP aa 19 32 (by rw[mF];decide);have t2:=bE aa 19 32;have t4:=aP ae 0 17 (by rw[bG];decide);have t5:=bE ae 0 17;clear a9 bn aa bo D1 ba;go_wp2_with fail
      go_big_region
      have K3:Q.heap[c]? =some (aC (cR ⟨(m:Int),h,r,t.leaf,t.id⟩) 121):=by rw[<-P];exact(cD (fun e=>ab e.symm) _ _ _).trans bm
      have c6:Hid (Q.heap[B+1]? =some (aC (aN t.nh t.nr) 73)):=P▸bO ae (by rw[bG,bG])
      have bt:Hid (Q.heap[B]? =some (aC (bC a) 22)):=by
       show _=_;rw[<-P,<-O,<-N];exact(cD (by omega) _ _ _).trans ((cD (fun e=>b1 e) _ _ _).trans ((cG _ ⟨c,18,none⟩ B _ (fun e=>b1 e)).trans A5))
      have c4:Hid (c_ 121 51 Q F (.slice a2 m c2) b8):=by
       refine ac.block fun k hk=>?_;obtain⟨n1,n2⟩:=am.out k hk;rw[<-P,<-O,<-N];exact(cD n2 _ _ _).trans ((cD n1 _ _ _).trans (cG _ ⟨c,18,none⟩ k _ n1))
      have bx:Hid (F<=Q.heap.size):=by
       show _<=_;rw[<-P,<-O,<-N,kB,kB];have:=bk.out;simp;exact this
      clear f1 f2 f3 f4 f5 g1 g2 g3 g4 g5 p1 p2 p3 p4 p5 j1 j2 j3 j4 j5 s2 s5 t1 t2 t4 t5 ab b1 bm ae N O P a8 ac K5 Q5 A5 am U;have D9:=mF ⟨(m:Int),h,r,t.leaf,t.id⟩;have b9:=ss ⟨(m:Int),h,r,t.leaf,t.id⟩;obtain⟨y0,y1,y2⟩:=dL 51 D9 K3;obtain⟨E,a5⟩:=ex (⟨(m:Int),h,r,t.leaf,t.id⟩:Ky);rw[a5]at G D9 b9 y1;have X9:=aA (aY Q (aC (cR E) 121) _ rfl);have O9:=aA (c4.gr ((Gr.refl Q).alloc (aC (cR E) 121)));have Z9:=aA (show F<=(Q.alloc (aC (cR E) 121)).heap.size by have h1:=bx.out;simp;omega)
      clear a5 K3;go_wp2_with (at_builtin;refine uh Ho _ rfl (.tmp 83) (.tmp 85) rfl F (.slice a2 m c2) b8 (by simp[Act.eval]) O9 Q.heap.size (cR E) (by simp[Act.eval]) X9 D9 b9 (m+1) ?g1 ?g2 Z9 ?_)
      case g1=>rw[av.out]
      case g2=>omega
      intro a3 c3 w3 a6 D _;have au:Hid (Gr Q (Q.alloc (aC (cR E) 121))):=(Gr.refl Q).alloc _
      have u:Hid (∀(q:Nat) (o:Obj),q<F->Q.heap[q]? =some o->w3.heap[q]? =some o):=fun q o hq ho=>by
       refine(D.block q ?_ (fun e=>?_)).trans ((au.block (aI ho)).trans ho)
       .have:=aI ho;simp;omega
       .have h1:=(O9.own e.symm).1;omega
      have G3:Hid (Gr w w3):=(bu.alloc _).grown D (fun k hk=>by have h1:=(O9.own hk).1;have h2:=y.out;have h3:=J.out;omega);have O3:Hid (c_ 121 51 w3 F (.slice a3 (m+1) c3) ((s++[E]).map cR)):=by
       show c_ _ _ _ _ _ _;rw[gD,ao.out];exact a6
      have A3:=aA (u B _ (by have h2:=y.out;omega) bt);have Q3:=aA (u (B+1) _ (by have h2:=y.out;omega) c6);have ar:Hid (chain L a=(s++[E])++mm L a (m+1) true (t.nh,t.nr)):=by
       show _=_;rw[af.out,C.out,G.out,fl];rfl
      have Z3:Hid (F<=w3.heap.size):=eu Z9 D.size;have L3:=aA (show (s++[E]).length=m+1 by rw[bV,S.out];rfl)
      clear a6 D y0 y1 y2;go_wp2_with fail;go_roundw
      .exact⟨m+1,true,(t.nh,t.nr),s++[E],a3,c3,rfl,rfl,by go_num,L3,G3,A3,Q3,O3,ar,Z3⟩
      .exact T
def uV(l:List Ky)(a:aK)(m h:Int)(r:aK)(b:Int)(id:Id):Int:=
 if lH l m=true then
  if iN (eT l m).h (eT l m).r h r=true then
   if 0<=(eT l m).lim then if(eT l m).lim<b then 3 else if b=(eT l m).lim/\id≠(eT l m).next then 3 else 0 else 0
  else 2
 else if m≠0 then 1 else if jG a h r=true then 0 else 2
def uQ(L:List Rl):Prop:=∀y∈L,0<=y.leaf
def YV{a:Type}(f:a->a->Int)(z:a):∀l:List a,l≠[]->least f z l∈l:=by
 intro l
 suffices h:∀n (l:List a),l.length=n->l≠[]->least f z l∈l from h _ l rfl
 intro n
 induction n with
 |zero=>intro l e b;exact absurd (fQ.1 e) b
 |succ n g=>
  intro l e b;obtain⟨c,y,rfl⟩:∃c y,l=c++[y]:=⟨l.dropLast,l.getLast b,(List.dropLast_concat_getLast b).symm⟩;rw[xz];by_cases d:c=[]
  .rw[aG d];simp
  .rw[aF d]
   split
   .simp
   .exact List.mem_append_left _ (g c (by simp at e;omega) d)
def YF{L:List Rl}(c:uQ L)(a:aK)(n:Nat)(p:Pk):(mU L a n p).lim= -1\/0<=(mU L a n p).lim:=by
 unfold mU;by_cases b:ed L a n p=[]
 .rw[aG b];exact .inl rfl
 .rw[aF b]
  refine .inr (c _ ?_);have:=YV fZ ep _ b;unfold ed jC at this;exact(zv.1 (zv.1 this).1).1
def LZ{L:List Rl}(b:uQ L)(a:aK):∀(f n:Nat) (p:Pk),∀k∈oM L a f n p,k.lim= -1\/0<=k.lim
 |0,_,_,_,h=>by cases h
 |f+1,n,p,k,h=>by
  unfold oM at h;rcases pc.1 h with e|h2
  .subst e;exact YF b a n p
  .by_cases c:ed L a n p=[]
   .rw[aG c]at h2;cases h2
   .rw[aF c]at h2;exact LZ b a f _ _ k h2
def XQ{L:List Rl}(b:uQ L)(a:aK):∀k∈chain L a,k.lim= -1\/0<=k.lim:=by
 intro k hk;unfold chain at hk;split at hk
 .cases hk
 .exact LZ b a _ _ _ k hk
def adc{L:List Rl}(c:uQ L)(a:aK)(m:Int)(h:lH (chain L a) m=true):(eT (chain L a) m).lim= -1\/0<=(eT (chain L a) m).lim:=by
 have b:0<=m/\m<(chain L a).length:=by unfold lH at h;exact oG h
 refine XQ c a _ ?_;unfold eT;rw[aG b.1,eD,cO (by omega)];exact kA _
def abw{L:List Rl}(f:uQ L)(a:aK)(m h:Int)(r:aK)(b:Int)(id:Id):uV (chain L a) a m h r b id=oA (chain L a) a m h r b id:=by
 unfold uV oA;by_cases c:lH (chain L a) m=true
 .rw[aG c,aG c]
  by_cases d:iN (eT (chain L a) m).h (eT (chain L a) m).r h r=true
  .rw[aG d,aG d]
   rcases adc f a m c with e|e
   .rw[aF (show ¬0<=(eT (chain L a) m).lim by omega),aG e]
   .rw[aG e,aF (show ¬(eT (chain L a) m).lim= -1 by omega)]
  .rw[aF d,aF d]
 .rw[aF c,aF c]
def im(L:List Rl)(y:Rl)(b c:Int):Int:=
 if b≠5 then 11 else if y.at_.n<0\/999<y.at_.n then 2 else if c≠y.at_.n+1 then 30
 else if cH y.h≠0\/cH y.nh≠0\/iN y.h y.r y.nh y.nr=true\/y.leaf<0\/2^y.h.toNat<=y.leaf then 18
 else if y.at_.n=0/\jG y.at_.a y.h y.r=false then 20 else if jw L y.id=true then 7 else 0
def Xo(L:List Rl)(id:Id)(c:bU)(l:me c.number)(d:Cm):im L (sL id c l d.height d.root) d.kind d.number=vL L id c d:=by
 unfold im vL sL;show(if d.kind≠5 then(11:Int)else if c.number<0\/999<c.number then 2 else if d.number≠c.number+1 then 30 else if cH c.height≠0\/cH d.height≠0\/iN c.height c.root d.height d.root=true\/c.leaf<0\/2^c.height.toNat<=c.leaf then 18 else if c.number=0/\jG c.author c.height c.root=false then 20 else if jw L id=true then 7 else 0)=_;by_cases g:d.kind≠5
 .rw[aG g,aG g]
 rw[aF g,aF g];by_cases h:c.number<0
 .rw[aG (.inl h),aG h]
 by_cases k:1000<=c.number
 .rw[aG (.inr (by omega)),aF h,aG k]
 rw[aF (by omega),aF h,aF k];by_cases i:d.number≠c.number+1
 .rw[aG i,aG i]
 rw[aF i,aF i];by_cases a:cH c.height≠0
 .rw[aG (.inl a),aG a]
 by_cases b:cH d.height≠0
 .rw[aG (.inr (.inl b)),aF a,aG b]
 by_cases e:iN c.height c.root d.height d.root=true
 .rw[aG (.inr (.inr (.inl e))),aF a,aF b,aG e]
 by_cases f:c.leaf<0
 .rw[aG (.inr (.inr (.inr (.inl f)))),aF a,aF b,aF e,aG f]
 by_cases j:(2:Int)^c.height.toNat<=c.leaf
 .rw[aG (.inr (.inr (.inr (.inr j)))),aF a,aF b,aF e,aF f,aG j]
 rw[aF (by intro q;rcases q with q|q|q|q|q;exact a q;exact b q;exact e q;exact f q;exact j q),aF a,aF b,aF e,aF f,aF j]
inductive ny:List Rl->Prop
 |nil:ny []
 |add {L:List Rl} {y:Rl}:ny L->im L y 5 (y.at_.n+1)=0->ny (L++[y])
def OS{L:List Rl}{y:Rl}{a d:Int}(h:im L y a d=0):0<=y.leaf:=by
 unfold im at h;by_cases c:y.leaf<0
 .exfalso
  by_cases b:a≠5
  .rw[aG b]at h;exact absurd h (aH rfl)
  rw[aF b]at h;split at h
  .exact absurd h (aH rfl)
  split at h
  .exact absurd h (aH rfl)
  rw[aG (.inr (.inr (.inr (.inl c))))]at h;exact absurd h (aH rfl)
 .omega
def SU{L:List Rl}{y:Rl}{a b:Int}(h:im L y a b=0):a=5/\b=y.at_.n+1:=by
 unfold im at h;by_cases c:a≠5
 .rw[aG c]at h;exact absurd h (aH rfl)
 rw[aF c]at h;split at h
 .exact absurd h (aH rfl)
 by_cases d:b≠y.at_.n+1
 .rw[aG d]at h;exact absurd h (aH rfl)
 exact⟨by omega,by omega⟩
def ny.leaf{L:List Rl}(h:ny L):uQ L:=by
 induction h with
 |nil=>intro y hy;cases hy
 |add _ b d=>
  intro x c;rcases mf.1 c with a|a
  .exact d x a
  .rw[sN]at a;subst a;exact OS b
def oV(L:List Rl)(y:Rl)(a b:Int):List Rl:=if im L y a b=0 then L++[y]else L
def ny.next{L:List Rl}(h:ny L)(y:Rl)(kind nx:Int):ny (oV L y kind nx):=by
 unfold oV;by_cases a:im L y kind nx=0
 .rw[aG a]
  obtain⟨rfl,rfl⟩:=SU a;exact h.add a
 .rw[aF a];exact h
def VV(L:List Rl)(y:Rl)(kind nx:Int):(oV L y kind nx).length<=L.length+1:=by
 unfold oV;split
 .simp
 .omega
end Go.Proofs.YtjfaogajmoffoaaGreatDoor
