/- Lemmas for VerifyStatus. -/
import Derived.Test.YtjfaogajmoffoaaGreatDoorQPA7
set_option maxRecDepth 100000
set_option maxHeartbeats 16000000
set_option linter.all false
namespace Go.Proofs.YtjfaogajmoffoaaGreatDoor
open Go.RowKit Tryz
def Wu(y:Rl)(p:Pk):iN y.h y.r p.1 p.2=decide (eW y=p):=by
 unfold iN eW;rw[kE];simp only[fH,lu,iK];constructor
 .rintro⟨a,b⟩;exact Prod.ext a b
 .intro h;rw[<-h];exact⟨rfl,rfl⟩
def ad1(L:List Rl)(t:gx)(p:Pk)(n:Nat)(b:t.n=(n:Int)):(nP L t).filter (fun y=>decide (eW y=p))=ed L t.a n p:=by
 unfold ed;rw[<-b,JF]
def adJ{a:Type}(f:a->Bool)(l:List a)(k:Nat)(h:k<l.length):(l.take (k+1)).filter f=(l.take k).filter f++(if f l[k]=true then[l[k]]else[]):=by
 rw[eF h,Af,wi,List.filter_nil]
def GO:Value->Nat
 | .slice _ n _=>n
 |_=>0
def MT:Value->Bool
 | .bool b=>b
 |_=>false
def Nk(n h:Int)(r:aK)(l a:Int)(i:Id)(T:TypeId):(Obj.cells ((cR ⟨n,h,r,l,i⟩).toArray.setIfInBounds 18 (.int .i64 a)) T (0,0))=.cells (cR ⟨n,h,r,a,i⟩).toArray T (0,0):=by
 congr 1;apply Array.ext';rw[Array.toList_setIfInBounds];show(Value.int .i64 n::(aN h r++(.int .i64 l::bC i))).set 18 _=_;rw[fj,pu 17 _ (by rw[bG];decide),bG];rfl
def LH{w:aB}{b:Nat}{n h:Int}{r:aK}{l:Int}{i:Id}{T:TypeId}(a:w.heap[b]? =some (.cells (cR ⟨n,h,r,l,bM⟩).toArray T (0,0))):(w.setCells b 19 (bC i)).heap[b]? =some (.cells (cR ⟨n,h,r,l,i⟩).toArray T (0,0)):=by
 have d:((Value.int .i64 n::aN h r)++[Value.int .i64 l]).length=19:=by simp[bG]
 have c:∀i:Id,cR ⟨n,h,r,l,i⟩=((Value.int .i64 n::aN h r)++[Value.int .i64 l])++(bC i++[]):=fun i=>by unfold cR;simp
 rw[c]at a;have:=qT b T [] (bC i) _ (bC bM) w (by rw[cC,cC]) a;rw[d]at this;rw[c];exact this
def NR(base x b1 b2:Nat)(L:List Rl)(hL:L.length<=900):CE base x b1 b2 L:=by
 intro a w hR;obtain⟨n,hn⟩:=ex w.heap.size;obtain⟨U0,hU,HG,H0⟩:=gO hn (aC (bC a) 42)
 have RU:=aA (hR.gr HG);have c1:=bH RU.hb 1;obtain⟨D2,hr⟩:=RU.out.ro;obtain⟨sa,sm,sc,-,ho,cx⟩:=hr.look ⟨a,0,by decide,by decide⟩;have d2:=aA hr;have cf:Hid (jC L a 0=nP L ⟨a,0,by decide,by decide⟩):=JF L ⟨a,0,by decide,by decide⟩;have HX:=aA (G_ L a);have b9:=aA (NT L a);obtain⟨R,N⟩:=ex (nP L ⟨a,0,by decide,by decide⟩);rw[N]at ho cf;rw[cf.out]at HX;have dj:R.length<=900:=by rw[<-N];exact eu (Ac _ _) hL
 obtain⟨a0,c0,am,-⟩:=ql ho;obtain⟨rfl,rfl,rfl⟩:sa=a0/\sm=R.length/\sc=c0:=by simpa using am
 clear am;have d:∀r∈R.map bK,r.length=84:=fun r hr=>by obtain⟨y,_,rfl⟩:=iQ.1 hr;exact fM y
 have ch:Hid (bX U0 (.slice sa R.length sc) 84 (R.map bK)):=rf d (by rw[cL];exact ho);have c6:=cx U0.drew (Gr.refl U0).drew;obtain⟨r0,r1,r2⟩:=dL 16 (aO a) H0.out;have B1:=aO a;have be:=aA acH;have cv:=aA Sq;clear hR hr ho cx d N;go_in;go_wp2_with fail
 go_big_region
 have G1:Hid (Gr U0 U0.drew):=(Gr.refl U0).drew;have d3:=aA (bX.gr ch G1);have az:=aA ((G1.block (aI H0)).trans H0);have d7:=aA (RU.gr G1);clear c6 c1 r0 r1 r2 ch H0 RU hU;generalize U0.drew=U1 at*
 obtain⟨B,hB⟩:=ex U1.heap.size;have HB:=aA hB;clear hB;have d1:=aA (HG.trans G1);have cc:=aA G1;clear HG G1;go_wp2_with fail
 go_loopw [5,26] (fun v i wr=>∃(k:Nat) (G:Option Addr) (H:Nat),k<=R.length/\i=.int .i64 k/\v=.slice G k H/\Hid (Gr U1 wr)/\Hid (c_ 44 17 wr B (.slice G k H) (((R.take k).map eW).map gy))) (fun _ i _=>R.length-(intOf i).toNat)
 .exact⟨0,none,0,bW _,rfl,rfl,Gr.refl U1,c_.nil _ _ _ _⟩
 .
  obtain⟨k,G,H,hk,rfl,rfl,M,hO⟩:=hrel;have HZ:=aA (show B<=wr.heap.size by rw[<-HB.out];exact M.size)
  by_cases Q:k<R.length
  .obtain⟨a1,ad,e1,-,hj⟩:=bX.gr d3.out M.out
   obtain⟨b,o,ha,hb,u1,u2⟩:=hj k (by rw[cL];exact Q);obtain⟨rfl,-,rfl⟩:sa=a1/\R.length=(R.map bK).length/\sc=ad:=by simpa using e1
   subst ha;clear e1;rw[ig]at u2;have HT:Hid (((R.take (k+1)).map eW).map gy=((R.take k).map eW).map gy++[gy (eW R[k])]):=by
    show _=_;rw[eF Q,gD,gD];rfl
   have ck:=aA (show (((R.take k).map eW).map gy).length=k by simp;omega)
   generalize R[k]=y at*
   have aj:(k:Int)<(R.length:Int):=by omega
   have d9:=nn k
   obtain⟨p,hp⟩:=ex wr.heap.size;have C:(wr.alloc (aC (bK ep) 132)).heap[p]? =some (aC (bK ep) 132):=aY _ _ _ hp.symm
   have D1:=fM y;have z0:=aP C 0 84 (by rw[fM];decide);have z1:=bE C 0 84;obtain⟨U,hU⟩:=ex ((wr.alloc (aC (bK ep) 132)).setCells p 0 (bK y));have GU:Hid (Gr wr U):=hU▸((Gr.refl wr).alloc _).setsOwn (b:=p) (by omega) _ _
   have X8:Hid (U.heap[p]? =some (aC (bK y) 132)):=hU▸bO C (by rw[D1,fM])
   clear C;have cb:=pQ y;have D3:=bG y.h y.r;have D4:=h_ y.h y.r;obtain⟨e1,e2,e3,e4,e5,e6,e7,e8,e9,dg,dh,di⟩:=pB X8.out;have X9:=aA (aY U (aC (aN y.h y.r) 44) _ rfl);have K:=aA ((hO.gr GU).gr ((Gr.refl U).alloc (aC (aN y.h y.r) 44)));have Z9:=aA (show B<=(U.alloc (aC (aN y.h y.r) 44)).heap.size by have h1:=HZ.out;have h2:=GU.size;simp;omega)
   obtain⟨rows,d⟩:=ex (((R.take k).map eW).map gy);rw[d]at HT ck K hO;replace d:=aA d;clear hj;go_wp2_with (at_builtin;refine uh RQ _ rfl (.tmp 30) (.tmp 33) rfl B (.slice G k H) rows (by simp[Act.eval]) K U.heap.size (aN y.h y.r) (by simp[Act.eval]) X9 D3 D4 (k+1) ?g1 ?g2 Z9 ?_)
   case g1=>rw[ck.out]
   case g2=>omega
   intro a3 c3 T u j _;have G3:Hid (Gr U1 T):=((M.trans GU).alloc _).grown j (fun q hq=>by have:=(K.own hq).1;have:=HB.out;omega);have O3:Hid (c_ 44 17 T B (.slice a3 (k+1) c3) (((R.take (k+1)).map eW).map gy)):=by show c_ _ _ _ _ _ _;rw[HT.out];exact u
   go_wp2_with fail;go_roundw
   .exact⟨k+1,a3,c3,by omega,by go_num,rfl,G3,by first|exact O3|(have:=O3.out;simpa using this)⟩
   .simp[intOf];omega
  .obtain rfl:k=R.length:=by omega
   have aj:¬(R.length:Int)<(R.length:Int):=by omega
   rw[jS]at hO;clear hk Q aj;have aj:¬(R.length:Int)<(R.length:Int):=by omega
   obtain⟨p0,c8⟩:=ex (least jr mE (R.map eW));obtain⟨c9,al⟩:=ex (decide (R≠[]))
   have ap:Hid (CG 181 #[.slice G R.length H,.func (.func 182) #[] #[]] wr (.tuple #[.agg (gy p0).toArray,.bool c9])):=by
    have h:=be (R.map eW) (.slice G R.length H) wr hO.sl (by simp;omega);rw[c8,show decide (0<((R.map eW).length:Int))=c9 by rw[<-al];apply xS.2;rw[cL];cases R<;>simp]at h;exact h
   rw[c8,al]at HX;have GU:=M;clear hO c8 al be M HZ;go_wp2_with fail;refine ap.mono ?_;rintro e w2 ⟨rfl,g2⟩;obtain⟨q,hq⟩:=ex w2.heap.size;have C:(w2.alloc (aC (aN 0 aQ) 44)).heap[q]? =some (aC (aN 0 aQ) 44):=aY _ _ _ hq.symm
   have C1:(aN 0 aQ).length=17:=bG _ _;have D1:=pL p0;have cb:=BS p0;have z0:=aP C 0 17 (by rw[C1];decide);have z1:=bE C 0 17;obtain⟨W3,af⟩:=ex ((w2.alloc (aC (aN 0 aQ) 44)).setCells q 0 (gy p0));have ar:=aA (show B<=q by rw[<-HB.out,<-hq];exact(GU.trans g2).size)
   have G3:Hid (Gr U1 W3):=af▸((GU.trans g2).alloc _).setsOwn (b:=q) (by have:=ar.out;have:=HB.out;omega) _ _
   have Q3:Hid (W3.heap[q]? =some (aC (gy p0) 44)):=af▸bO C (by rw[D1,C1])
   obtain⟨X,bu⟩:=ex W3.heap.size;have cz:=aA bu;have a6:Hid (q<X):=bu▸aI Q3
   clear C GU g2 bu ap;go_wp2_with fail;try rw[af]
   replace af:=aA af;clear z0 z1 hq;generalize wr=dm at*
   go_loopw [9,10] (fun o v wr=>∃(m:Nat) (ok:Bool) (p:Pk) (g:List Ky) (G:Option Addr) (H:Nat),o=.bool ok/\v=.slice G m H/\g.length=m/\Hid (Gr U1 wr)/\Hid (c_ 181 51 wr X (.slice G m H) (g.map cR))/\Hid (wr.heap[q]? =some (aC (gy p) 44))/\Hid (chain L a=g++mm L a m ok p)/\Hid (X<=wr.heap.size)) (fun o v _=>rp L (GO v) (MT o))
   .exact⟨0,c9,p0,[],none,0,rfl,rfl,rfl,G3,c_.nil _ _ _ _,Q3,HX,by show _<=_;rw[cz.out];exact aU _⟩
   .
    obtain⟨m,ok,p,g,a2,c2,rfl,rfl,ag,M,hO,hQ,b3,bw⟩:=hrel;clear G3 Q3 HX;have aa:=aA ag;have da:m<=901:=by
     have h1:=b9.out;rw[b3.out,bV,ag]at h1;omega
    clear ag
    cases ok with
    |false=>
     have HE:=aA (show chain L a=g by rw[b3.out];show g++[]=g;exact je _)
     go_wp2_with fail;go_ret;refine⟨_,rfl,?_,?_,d1.trans M⟩
     .rw[HE.out];exact hO.sl
     .have:=b9.out;omega
    |true=>
     obtain⟨h,r⟩:=p;have z:=aA (JW L a m (h,r));have aq:=aA (Lt L a m (h,r));have ao:Hid (mU L a m (h,r)=if ed L a m (h,r)=[]then⟨(m:Int),h,r,-1,bM⟩else⟨(m:Int),h,r,(least fZ ep (ed L a m (h,r))).leaf,(least fZ ep (ed L a m (h,r))).id⟩):=rfl;have bo:Hid (uu L a m (h,r)=((least fZ ep (ed L a m (h,r))).nh,(least fZ ep (ed L a m (h,r))).nr)):=rfl;have ae:Hid (wr.heap[q]? =some (aC (aN h r) 44)):=hQ
     have cl:Hid (∀y:Rl,iN y.h y.r h r=decide (eW y=(h,r))):=fun y=>Wu y (h,r);obtain⟨b5,de,b6,-,b4,bf⟩:=d2.out.look ⟨a,m,by show(-9223372036854775808:Int)<=(m:Int);omega,by show(m:Int)<=9223372036854775807;omega⟩;have bn:=aA (ad1 L ⟨a,m,by show(-9223372036854775808:Int)<=(m:Int);omega,by show(m:Int)<=9223372036854775807;omega⟩ (h,r) m rfl);obtain⟨s,bx⟩:∃s,nP L ⟨a,m,by show(-9223372036854775808:Int)<=(m:Int);omega,by show(m:Int)<=9223372036854775807;omega⟩=s:=⟨_,rfl⟩;have df:s.length<=900:=by rw[<-bx];exact eu (Ac _ _) hL
     rw[bx]at b4 bn;obtain⟨E,hE⟩:=ex (ed L a m (h,r));have b8:=aA (show s.filter (fun y=>decide (eW y=(h,r)))=E by rw[bn.out];exact hE)
     rw[hE]at z aq ao bo;obtain⟨a0,c0,am,-⟩:=ql b4;obtain⟨rfl,rfl,rfl⟩:b5=a0/\de=s.length/\b6=c0:=by simpa using am
     clear am;have ci:Hid (bX U0 (.slice b5 s.length b6) 84 (s.map bK)):=rf (fun r hr=>by obtain⟨y,_,rfl⟩:=iQ.1 hr;exact fM y) (by rw[cL];exact b4);have ba:Hid (∀W,Gr U1 W->(Instr.lookup 101 (.map (some b2)) (.agg (ef a m).toArray) false).run prog W=.ok (.slice b5 s.length b6) W):=fun W hW=>bf W (cc.trans hW);clear b4 bf bx hE bn;obtain⟨c,ah⟩:∃c,wr.heap.size=c:=⟨_,rfl⟩;have bj:=aA ah;have C:(wr.alloc (aC l_ 181)).heap[c]? =some (aC l_ 181):=aY _ _ _ ah.symm
     have KL:l_.length=51:=AK;have D1:=mF ⟨(m:Int),h,r,-1,bM⟩;have cb:=ss ⟨(m:Int),h,r,-1,bM⟩;have z0:=aP C 0 51 (by rw[KL];decide);have z1:=bE C 0 51;obtain⟨W4,b0⟩:=ex ((wr.alloc (aC l_ 181)).setCells c 0 (cR ⟨(m:Int),h,r,-1,bM⟩));have G4:Hid (Gr wr W4):=b0▸((Gr.refl wr).alloc _).setsOwn (b:=c) (by omega) _ _
     have K4:Hid (W4.heap[c]? =some (aC (cR ⟨(m:Int),h,r,-1,bM⟩) 181)):=b0▸bO C (by rw[D1,KL])
     have q0:=aP ae 0 17 (by rw[bG];decide);have q1:=(bJ ae 0 17 (by rw[bG];decide)).trans (b_ _ _ (bG h r));have q2:=aI ae;have e1:=bG h r;have e2:=h_ h r;clear C;have g4:=G4.out;have x0:=(g4.block (aI ((M.block (aI az)).trans az))).trans ((M.block (aI az)).trans az);obtain⟨r0,r1,r2⟩:=dL 16 B1 x0;have x1:=(d7.gr (M.trans g4));have c1:=bH x1.hb 1;have k0:=bH K4 0;have c6:=ba W4.drew ((M.trans g4).drew);have dd:W4.cell? ⟨c,0,none⟩=some (.int .i64 (m:Int)):=k0;clear k0 x0 x1 g4;go_wp2_with fail;clear z0 z1 q0 q1 q2 b0
     go_big_region
     have G5:Hid (Gr wr W4.drew):=G4.drew;have K5:=aA (((Gr.refl W4).drew.block (aI K4)).trans K4);have Q5:=aA ((G5.block (aI ae)).trans ae);clear c6 c1 r0 r1 r2 dd K4 G4 ba ah;generalize W4.drew=W5 at*
     have cj:=aA (bX.gr ci (cc.trans (M.trans G5)));obtain⟨B5,bv⟩:=ex W5.heap.size;have ce:=aA bv;have ab:Hid (wr.heap.size<=c/\c<B5):=⟨by rw[bj.out];exact aU _,by rw[<-bv];exact aI K5⟩;clear bv ci;go_wp2_with fail;generalize wr=dn at*
     go_loopw [12,56] (fun v i wr=>∃(k J:Nat) (G:Option Addr) (H:Nat),k<=s.length/\i=.int .i64 k/\v=.slice G J H/\J<=k/\Hid (J=((s.take k).filter (fun y=>decide (eW y=(h,r)))).length)/\Hid (Gr W5 wr)/\Hid (c_ 132 84 wr B5 (.slice G J H) (((s.take k).filter (fun y=>decide (eW y=(h,r)))).map bK))) (fun _ i _=>s.length-(intOf i).toNat)
     .exact⟨0,0,none,0,bW _,rfl,rfl,aU _,rfl,Gr.refl W5,c_.nil _ _ _ _⟩
     .
      obtain⟨k,J,G,H,hk,rfl,rfl,dk,S,a7,a8⟩:=hrel;have HZ:=aA (show B5<=wr.heap.size by rw[<-ce.out];exact a7.size)
      by_cases Q:k<s.length
      .obtain⟨a1,ad,cr,-,hj⟩:=bX.gr cj.out a7.out
       obtain⟨b,o,ha,hb,u1,u2⟩:=hj k (by rw[cL];exact Q);obtain⟨rfl,-,rfl⟩:b5=a1/\s.length=(s.map bK).length/\b6=ad:=by simpa using cr
       subst ha;clear cr;rw[ig]at u2;have HT:=aA (adJ (fun y=>decide (eW y=(h,r))) s k Q);have Y:=cl s[k];generalize s[k]=y at*
       have aj:(k:Int)<(s.length:Int):=by omega
       have d9:=nn k
       obtain⟨p,hp⟩:=ex wr.heap.size;have C:(wr.alloc (aC (bK ep) 132)).heap[p]? =some (aC (bK ep) 132):=aY _ _ _ hp.symm
       have D3:=fM y;have D4:=pQ y;have z0:=aP C 0 84 (by rw[fM];decide);have z1:=bE C 0 84;obtain⟨U,hU⟩:=ex ((wr.alloc (aC (bK ep) 132)).setCells p 0 (bK y));have GU:Hid (Gr wr U):=hU▸((Gr.refl wr).alloc _).setsOwn (b:=p) (by omega) _ _
       have X8:Hid (U.heap[p]? =some (aC (bK y) 132)):=hU▸bO C (by rw[D3,fM])
       obtain⟨f1,f2,f3,f4,f5,f6,f7,f8,f9,cs,ct,cu⟩:=pB X8.out;have xq:=((a7.trans GU).block (aI Q5)).trans Q5;obtain⟨q0,q1,q2⟩:=dL 17 e1 xq;have cd:=aA (a7.trans GU);have OU:=aA (a8.gr GU);clear C hj xq f1 f2 f3 f4 f7 f8 f9;obtain⟨rows,d⟩:=ex ((s.take k).filter (fun y=>decide (eW y=(h,r))));rw[d]at HT OU S;replace d:=aA d;generalize dl:iN y.h y.r h r=pe at*
       cases pe with
       |false=>
        have ac:=aA (show (s.take (k+1)).filter (fun y=>decide (eW y=(h,r)))=rows by rw[HT.out,<-Y];simp)
        have c7:=aA (show J=((s.take (k+1)).filter (fun y=>decide (eW y=(h,r)))).length by rw[ac.out];exact S)
        clear a8 HT Y;go_wp2_with fail;go_roundw
        .exact⟨k+1,J,G,H,by omega,by go_num,rfl,by omega,c7,cd,by rw[ac.out];exact OU⟩
        .simp[intOf];omega
       |true=>
        have ac:=aA (show (s.take (k+1)).filter (fun y=>decide (eW y=(h,r)))=rows++[y] by rw[HT.out,<-Y];simp)
        have c7:=aA (show J+1=((s.take (k+1)).filter (fun y=>decide (eW y=(h,r)))).length by rw[ac.out,bV,<-S.out];rfl)
        have X9:=aA (aY U (aC (bK y) 132) _ rfl);have K:=aA (OU.gr ((Gr.refl U).alloc (aC (bK y) 132)));have Z9:=aA (show B5<=(U.alloc (aC (bK y) 132)).heap.size by have h1:=HZ.out;have h2:=GU.size;simp;omega)
        have cg:=aA (show (rows.map bK).length=J by rw[cL];exact S.symm)
        obtain⟨an,t⟩:=ex (rows.map bK);rw[t]at cg K;replace t:=aA t;clear a8 HT Y;go_wp2_with (at_builtin;refine uh abN _ rfl (.tmp 64) (.tmp 66) rfl B5 (.slice G J H) an (by simp[Act.eval]) K U.heap.size (bK y) (by simp[Act.eval]) X9 D3 D4 (J+1) ?g1 ?g2 Z9 ?_)
        case g1=>rw[cg.out]
        case g2=>omega
        intro a3 c3 T u j _;have G3:Hid (Gr W5 T):=(cd.alloc _).grown j (fun q hq=>by have:=(K.own hq).1;have:=ce.out;omega)
        have O3:Hid (c_ 132 84 T B5 (.slice a3 (J+1) c3) (((s.take (k+1)).filter (fun y=>decide (eW y=(h,r)))).map bK)):=by
         show c_ _ _ _ _ _ _;rw[ac.out,gD,t.out];exact u
        clear u j;go_wp2_with fail;go_roundw
        .exact⟨k+1,J+1,a3,c3,by omega,by go_num,rfl,by omega,c7,G3,O3⟩
        .simp[intOf];omega
      .obtain rfl:k=s.length:=by omega
       rw[jS,b8.out]at S a8;clear hk Q;have aj:¬(s.length:Int)<(s.length:Int):=by omega
       obtain⟨f,c5⟩:=ex (least fZ ep E);obtain⟨ok2,a4⟩:=ex (decide (E≠[]))
       have ap:Hid (∀W,Gr wr W->CG 183 #[.slice G J H,.func (.func 184) #[] #[]] W (.tuple #[.agg (bK f).toArray,.bool ok2])):=by
        intro W hW;have h:=cv E (.slice G J H) W (bX.gr a8.sl hW) (by have:=S.out;omega);rw[c5,show decide (0<(E.length:Int))=ok2 by rw[<-a4];apply xS.2;cases E<;>simp]at h;exact h
       rw[a4]at z aq;rw[c5]at ao bo;have bb:=aA a4;clear c5 a4 a8 S b8 cj cl;obtain⟨D,ai⟩:=ex wr.heap.size;have b7:=aA ai;obtain⟨W6,c4,G6,K6⟩:=gO ai (aC (bK ep) 132)
       have D3:=fM f;have D4:=pQ f;go_wp2_with fail;try rw[c4]
       replace c4:=aA c4;refine(ap W6 G6).mono ?_;rintro e w7 ⟨rfl,g7⟩;have G7:=aA (G6.trans g7);have K7:=aA ((g7.block (aI K6)).trans K6);have z0:=aP K7 0 84 (by rw[fM];decide);have z1:=bE K7 0 84;obtain⟨Z,cw⟩:=ex (w7.setCells D 0 (bK f));have G8:Hid (Gr wr Z):=cw▸G7.out.setsOwn (b:=D) (by have:=b7.out;omega) _ _
       have K8:Hid (Z.heap[D]? =some (aC (bK f) 132)):=cw▸bO K7 (by rw[D3,fM])
       have a5:Hid (Gr W5 Z):=a7.trans G8;have Y8:=aA ((a5.block (aI K5)).trans K5);have Q8:=aA ((a5.block (aI Q5)).trans Q5);have N1:Hid (c≠D/\q≠D/\q≠c):=by
        have h1:=ab.out;have h2:=b7.out;have h3:=HZ.out;have h4:=a6.out;have h5:=bw.out;exact⟨by omega,by omega,by omega⟩
       have bh:=aA ((M.trans G5).trans a5);have av:=aA ((hO.gr G5).gr a5);have bk:Hid (X<=Z.heap.size/\c<Z.heap.size/\B<=c):=⟨eu bw (G5.trans a5).size,aI Y8,by have h1:=ab.1;have h2:=M.size;have h3:=HB.out;omega⟩
       have bc:Hid (∀k,(Value.slice a2 m c2).ownBlock=some k->k≠c/\k≠q):=fun k hk=>by
        have h1:=hO.own hk;have h2:=ab.1;have h3:=a6.out;exact⟨by omega,by omega⟩
       clear G7 K7 g7 a7 M hO a5 G6 K6 G8 bw;clear ai;have bi:=aA (show (g.map cR).length=m by rw[cL];exact aa)
       obtain⟨an,t⟩:=ex (g.map cR);rw[t]at bi av;have bd:=aA t;clear t
       cases ok2 with
       |false=>
        have bm:=aA (show E=[] by have:=bb.out;simpa using this)
        have F:=aA (show mU L a m (h,r)=⟨(m:Int),h,r,-1,bM⟩ by rw[ao.out,aG bm.out])
        have D5:=mF ⟨(m:Int),h,r,-1,bM⟩;have D6:=ss ⟨(m:Int),h,r,-1,bM⟩;obtain⟨y0,y1,y2⟩:=dL 51 D5 Y8.out;obtain⟨I,ak⟩:=ex (⟨(m:Int),h,r,-1,bM⟩:Ky);rw[ak]at F D5 D6 y1;have X9:=aA (aY Z (aC (cR I) 181) _ rfl);have K:=aA (av.gr ((Gr.refl Z).alloc (aC (cR I) 181)));have Z9:=aA (show X<=(Z.alloc (aC (cR I) 181)).heap.size by have h1:=bk.1;simp;omega)
        clear ak;go_wp2_with (at_builtin;refine uh GM _ rfl (.tmp 83) (.tmp 85) rfl X (.slice a2 m c2) an (by simp[Act.eval]) K Z.heap.size (cR I) (by simp[Act.eval]) X9 D5 D6 (m+1) ?g1 ?g2 Z9 ?_)
        case g1=>rw[bi.out]
        case g2=>omega
        intro a3 c3 T u j _;have G3:Hid (Gr U1 T):=(bh.alloc _).grown j (fun k hk=>by have h1:=(K.own hk).1;have h2:=HB.out;have h3:=ar.out;have h4:=a6.out;omega);have O3:Hid (c_ 181 51 T X (.slice a3 (m+1) c3) ((g++[I]).map cR)):=by
         show c_ _ _ _ _ _ _;rw[gD,bd.out];exact u
        have Q3:Hid (T.heap[q]? =some (aC (gy (h,r)) 44)):=by
         show _=_;refine(j.block q ?_ (fun e=>?_)).trans ((((Gr.refl Z).alloc _).block (aI Q8)).trans Q8)
         .have:=aI Q8;simp;omega
         .have h1:=(K.own e.symm).1;have h4:=a6.out;omega
        have bg:Hid (chain L a=(g++[I])++mm L a (m+1) false (h,r)):=by
         show _=_;rw[b3.out,z.out,F.out,fl];rfl
        have Z3:Hid (X<=T.heap.size):=eu Z9 j.size;have A3:=aA (show (g++[I]).length=m+1 by rw[bV,aa.out];rfl)
        clear u j;go_wp2_with fail;go_roundw
        .exact⟨m+1,false,(h,r),g++[I],a3,c3,rfl,rfl,A3,G3,O3,Q3,bg,Z3⟩
        .exact aq
       |true=>
        have bm:=aA (show E≠[] by have:=bb.out;simpa using this)
        have F:=aA (show mU L a m (h,r)=⟨(m:Int),h,r,f.leaf,f.id⟩ by rw[ao.out,aF bm.out])
        obtain⟨f1,f2,f3,f4,f5,f6,f7,f8,f9,cs,ct,cu⟩:=pB K8.out;have D5:=cC f.id;have D6:=gE f.id;have D7:=bG f.nh f.nr;have D8:=h_ f.nh f.nr;obtain⟨V1,O⟩:∃V,Z.drew.setCell ⟨c,18,none⟩ (.int .i64 f.leaf)=V:=⟨_,rfl⟩;obtain⟨V2,P⟩:∃V,V1.setCells c 19 (bC f.id)=V:=⟨_,rfl⟩;obtain⟨V3,a9⟩:∃V,V2.setCells q 0 (aN f.nh f.nr)=V:=⟨_,rfl⟩;have bp:Z.drew.heap[D]? =some (aC (bK f) 132):=K8
        have ax:Z.drew.heap[c]? =some (aC (cR ⟨(m:Int),h,r,-1,bM⟩) 181):=Y8
        have cn:Z.drew.heap[q]? =some (aC (aN h r) 44):=Q8
        obtain⟨br,d5,au⟩:=N1.out;have bq:V1.heap[D]? =some (aC (bK f) 132):=by rw[<-O];exact(cG _ ⟨c,18,none⟩ D _ (fun e=>br e.symm)).trans bp
        have ay:V1.heap[c]? =some (aC (cR ⟨(m:Int),h,r,f.leaf,bM⟩) 181):=by rw[<-O,fC _ c 18 _ _ _ ax,Nk]
        have co:V1.heap[q]? =some (aC (aN h r) 44):=by rw[<-O];exact(cG _ ⟨c,18,none⟩ q _ (fun e=>au e)).trans cn
        have cm:V2.heap[D]? =some (aC (bK f) 132):=by rw[<-P];exact(cD (fun e=>br e.symm) _ _ _).trans bq
        have cp:V2.heap[c]? =some (aC (cR ⟨(m:Int),h,r,f.leaf,f.id⟩) 181):=by rw[<-P];exact LH ay
        have aw:V2.heap[q]? =some (aC (aN h r) 44):=by rw[<-P];exact(cD (fun e=>au e) _ _ _).trans co
        obtain⟨g1,g2,-,-,-,-,g7,g8,g9,-,-,d8⟩:=pB bp;obtain⟨i1,i2,-,-,-,-,i7,i8,i9,-,-,db⟩:=pB bq;obtain⟨j1,j2,-,-,-,-,j7,j8,j9,-,-,dc⟩:=pB cm;have s2:=ee ax 18;have t1:=aP ay 19 32 (by rw[mF];decide);have t2:=bE ay 19 32;have t4:=aP aw 0 17 (by rw[bG];decide);have t5:=bE aw 0 17;have s5:=(IB ax).l;clear bp ax cn bq ay co cm f3 f4 f5 f6 cs ct;go_wp2_with fail
        go_big_region
        have cq:V3.heap[c]? =some (aC (cR ⟨(m:Int),h,r,f.leaf,f.id⟩) 181):=by rw[<-a9];exact(cD (fun e=>au e.symm) _ _ _).trans cp
        have bt:Hid (V3.heap[q]? =some (aC (aN f.nh f.nr) 44)):=a9▸bO aw (by rw[bG,bG])
        have cy:Hid (Gr U1 V3):=by
         show Gr _ _;have h2:=HB.out;have h3:=ar.out;have h4:=bk.2.2;rw[<-a9,<-P,<-O];exact((bh.drew.setOwn (b:=c) (o:=18) (by omega) _).setsOwn (b:=c) (by omega) _ _).setsOwn (b:=q) (by omega) _ _
        have d6:Hid (c_ 181 51 V3 X (.slice a2 m c2) an):=by
         refine av.block fun k hk=>?_;obtain⟨n1,J⟩:=bc.out k hk;rw[<-a9,<-P,<-O];exact(cD J _ _ _).trans ((cD n1 _ _ _).trans (cG _ ⟨c,18,none⟩ k _ n1))
        have d4:Hid (X<=V3.heap.size):=by
         show _<=_;rw[<-a9,<-P,<-O,kB,kB];have:=bk.1;simp;exact this
        clear g1 g2 g7 g8 g9 d8 i1 i2 i7 i8 i9 db j1 j2 j7 j8 j9 dc s2 s5 t1 t2 t4 t5 f1 f2 f7 f8 f9 cu br d5 au cp aw O P a9 bh av Y8 Q8 K8 bc;have D9:=mF ⟨(m:Int),h,r,f.leaf,f.id⟩;have ca:=ss ⟨(m:Int),h,r,f.leaf,f.id⟩;obtain⟨y0,y1,y2⟩:=dL 51 D9 cq;obtain⟨I,ak⟩:=ex (⟨(m:Int),h,r,f.leaf,f.id⟩:Ky);rw[ak]at F D9 ca y1;have X9:=aA (aY V3 (aC (cR I) 181) _ rfl);have K:=aA (d6.gr ((Gr.refl V3).alloc (aC (cR I) 181)));have Z9:=aA (show X<=(V3.alloc (aC (cR I) 181)).heap.size by have h1:=d4.out;simp;omega)
        clear ak cq;go_wp2_with (at_builtin;refine uh GM _ rfl (.tmp 83) (.tmp 85) rfl X (.slice a2 m c2) an (by simp[Act.eval]) K V3.heap.size (cR I) (by simp[Act.eval]) X9 D9 ca (m+1) ?g1 ?g2 Z9 ?_)
        case g1=>rw[bi.out]
        case g2=>omega
        intro a3 c3 T u j _;have G3:Hid (Gr U1 T):=(cy.alloc _).grown j (fun k hk=>by have h1:=(K.own hk).1;have h2:=HB.out;have h3:=ar.out;have h4:=a6.out;omega);have O3:Hid (c_ 181 51 T X (.slice a3 (m+1) c3) ((g++[I]).map cR)):=by
         show c_ _ _ _ _ _ _;rw[gD,bd.out];exact u
        have Q3:Hid (T.heap[q]? =some (aC (gy (f.nh,f.nr)) 44)):=by
         show _=_;refine(j.block q ?_ (fun e=>?_)).trans ((((Gr.refl V3).alloc _).block (aI bt)).trans bt)
         .have:=aI bt;simp;omega
         .have h1:=(K.own e.symm).1;have h4:=a6.out;omega
        have bg:Hid (chain L a=(g++[I])++mm L a (m+1) true (f.nh,f.nr)):=by
         show _=_;rw[b3.out,z.out,F.out,bo.out,fl];rfl
        have Z3:Hid (X<=T.heap.size):=eu Z9 j.size;have A3:=aA (show (g++[I]).length=m+1 by rw[bV,aa.out];rfl)
        clear u j;go_wp2_with fail;go_roundw
        .exact⟨m+1,true,(f.nh,f.nr),g++[I],a3,c3,rfl,rfl,A3,G3,O3,Q3,bg,Z3⟩
        .exact aq
def rj(W:aB):Prop:=∀i (n:Int),([0,1,2,2]:List Int)[i]? =some n->W.cell? (aD 0 i)=some (.int .i64 n)
def rj.lt{w:aB}(h:rj w):0 <w.heap.size:=ka w _ (h 0 0 rfl)
def rj.gr{w w':aB}(h:rj w)(a:Gr w w'):rj w':=fun i n b=>(a.cell h.lt).trans (h i n b)
def sX(j:Int):Int:=if j=0 then 0 else if j=1 then 1 else 2
def uX(j:Int):Prop:=j=0\/j=1\/j=2\/j=3
def Ln(l:List Ky)(a:aK)(m h:Int)(r:aK)(b:Int)(id:Id):uX (oA l a m h r b id):=by
 unfold oA uX;repeat' split
 all_goals omega
structure SS(W:aB)(n:Nat)(k:bU)(y:Vector UInt8 32)(b:Bool):Prop where
 h0:hasRow W (aD n 0) 75=true
 r0:rowAt W (aD n 0) 75=aX k
 h1:hasRow W (aD n 75) 32=true
 r1:rowAt W (aD n 75) 32=bC y
 c:W.cell? (aD n 107)=some (.bool b)
 z:n<W.heap.size
def E3{W:aB}{n:Nat}{k:bU}{y:Vector UInt8 32}{b:Bool}(h:HB W n (gA k y b) 79):SS W n k y b:=by
 have a:=qL k y b;refine⟨aP h 0 75 (by omega),(bJ h 0 75 (by omega)).trans (gP _ _ _ (dO k)),aP h 75 32 (by omega),(bJ h 75 32 (by omega)).trans ?_,(bH h 107).trans ?_,aI h⟩
 .unfold gA
  rw[eQ (aX k) _ 75 32 75 (dO k) (aU _),gP _ _ _ (cC y)]
 .unfold gA
  rw[eY (aX k) _ 107 75 (dO k) (aH rfl),eY (bC y) _ 32 32 (cC y) (aU _)];rfl
def acf(k:bU)(g:cN (aX k)=true)(y:Vector UInt8 32)(v:dB)(w:aB):Calls prog 23 #[aE (gA k y false),.pointer v] w (RG w (.int .i64 3)):=by
 obtain⟨n,b⟩:=ex w.heap.size;have a:Hid (Gr w (w.alloc (aC (gA k y false) 79))):=(Gr.refl w).alloc _;have f:=E3 (aY w (aC (gA k y false) 79) n b.symm);have d:=f.c;go_in;go_wp2_with fail;go_ret;exact⟨rfl,a⟩
def Ar(w:aB)(p:dB)(k:bU)(y:Id)(j:Int):Prop:=∀W,Gr w W->CG 52 #[.pointer p,aE (bC k.author),.int .i64 k.number,aE (aN k.height k.root),.int .i64 k.leaf,aE (bC y)] W (.int .i64 j)
def Xh(k:bU)(D:cN (aX k)=true)(y:Id)(p:dB)(w:aB)(B:rj w)(j:Int)(E:uX j)(z:Ar w p k y j):Calls prog 23 #[aE (gA k y true),.pointer p] w (RG w (.int .i64 (sX j))):=by
 obtain⟨n,G⟩:=ex w.heap.size;obtain⟨r,L,i,s⟩:=gO G (aC (gA k y true) 79)
 obtain⟨t,l⟩:=ex (r.alloc (aC (aX k) 46));obtain⟨m,F⟩:=ex r.heap.size;have g:Hid (Gr r t):=l▸(Gr.refl r).alloc _
 have C:Hid (HB t m (aX k) 46):=l▸aY _ _ _ F.symm
 have o:=aA (z t (i.trans g));have q:=aA B;have H:=dO k;have f:=E3 s;have I:=f.c;have J:=f.h0;have K:=f.r0;have h:=jz C;have M:=h.au0;have N:=h.au1;have O:=h.number;have P:=h.pu0;have Q:=h.pu1;have R:=h.leaf;have u:=E3 ((g.block (aI s)).trans s);have S:=u.h1;have T:=u.r1;rcases E with rfl|rfl|rfl|rfl
 .go_in
  go_wp2_with (go_at_call 52;refine bA o fun x b=>?_;have a:=aA ((i.trans g).trans b);have d:=(q.gr a) 0 _ rfl;have v:=ka _ _ d);go_ret;exact⟨rfl,a⟩
 .go_in
  go_wp2_with (go_at_call 52;refine bA o fun x b=>?_;have a:=aA ((i.trans g).trans b);have d:=(q.gr a) 1 _ rfl;have v:=ka _ _ d);go_ret;exact⟨rfl,a⟩
 .go_in
  go_wp2_with (go_at_call 52;refine bA o fun x b=>?_;have a:=aA ((i.trans g).trans b);have d:=(q.gr a) 2 _ rfl;have v:=ka _ _ d);go_ret;exact⟨rfl,a⟩
 .go_in
  go_wp2_with (go_at_call 52;refine bA o fun x b=>?_;have a:=aA ((i.trans g).trans b);have d:=(q.gr a) 3 _ rfl;have v:=ka _ _ d);go_ret;exact⟨rfl,a⟩
def mK(k:bU)(a:bP)(rs:List Id)(g:Sg)(j:Int):Int:=if fK k a rs g=0 then sX j else 3
def QW(k:bU)(a:bP)(rs:List Id)(g:Sg)(h:cN (aX k)=true)(p:dB)(w:aB)(d:rj w)(j:Int)(f:uX j)(c:Ar w p k (jJ k a rs) j):Calls prog 23 #[aE (oJ k a rs g),.pointer p] w (RG w (.int .i64 (mK k a rs g j))):=by
 unfold oJ mK;by_cases b:fK k a rs g=0
 .rw[aG b,aG b];exact Xh k h _ p w d j f c
 .rw[aF b,aF b];exact acf jH EU bM p w
def QR(k:bU)(a:bP)(rs:List Id)(g:Sg):(oJ k a rs g).length=108:=by
 unfold oJ;split<;>exact qL _ _ _
def Yk(k:bU)(a:bP)(rs:List Id)(g:Sg)(b:cN (aX k)=true):cN (oJ k a rs g)=true:=by
 unfold oJ;split
 .exact AO k b _ _
 .exact AO jH EU _ _
def IR(k:bU)(a:bP)(rs:List Id)(g:Sg)(d:Value)(p:dB)(w:aB)(u:iO k a)(m:fF w k a rs)(t:Bg w)(q:dM w d g.path)(y:rj w)(j:Int)(D:uX j)(v:Ar w p k (jJ k a rs) j):
  Calls prog 8 #[aE (dE k (aW g.leaf g.chains d)),.pointer p] w (RG w (.int .i64 (mK k a rs g j))):=by
 obtain⟨n,E⟩:=ex w.heap.size;have b:=m.one;obtain⟨l,B,f,-⟩:=gO E (aC (dE k (aW g.leaf g.chains d)) 49)
 have r:=aA (VC k a rs g d l u (m.gr f) (t.gr f) (bX.gr q f));have F:Hid (∀W,Gr l W->CG 23 #[aE (oJ k a rs g),.pointer p] W (.int .i64 (mK k a rs g j))):=fun W C=>QW k a rs g b p W (y.gr (f.trans C)) j D (fun V H=>v V ((f.trans C).trans H));have N:=QR k a rs g;have O:=Yk k a rs g b;generalize mK k a rs g j=z at*
 generalize oJ k a rs g=V at*
 obtain⟨J,K,h⟩:=q.shape;have o:cN (dE k (aW g.leaf g.chains d))=true:=by rw[h];unfold dE;rw[iI,b,mn];rfl
 have c:=PP k g.leaf g.chains d;obtain⟨S,x⟩:=ex (dE k (aW g.leaf g.chains d));rw[x]at o c r B|-
 have i:HB l n S 49:=by rw[<-B];exact aY _ _ _ E.symm
 have L:=aP i 0 637 (by rw[c];decide);have M:=(bJ i 0 637 (by rw[c];decide)).trans (b_ _ _ c);go_in;go_wp2_with (first
  |(go_at_call 22;refine bA r fun I s=>?_)
  |(go_at_call 23;refine bA (F I s) fun P G=>?_))
 go_ret;exact⟨rfl,f.trans (s.trans G)⟩
end Go.Proofs.YtjfaogajmoffoaaGreatDoor
