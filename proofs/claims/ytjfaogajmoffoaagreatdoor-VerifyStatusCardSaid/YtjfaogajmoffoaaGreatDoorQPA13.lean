/- Lemmas for VerifyStatus. -/
import Derived.Test.YtjfaogajmoffoaaGreatDoorQPA12
set_option maxRecDepth 100000
set_option maxHeartbeats 16000000
set_option linter.all false
namespace Go.Proofs.YtjfaogajmoffoaaGreatDoor
open Go.RowKit Tryz
section
@[local go_sem ↓ high] def afY (w:aB):Sem.run prog (zeroValue 270) w=.ok (aE (cY (fG []))) w:=by kernel_rfl
@[local go_sem] def af':dZ prog 270 =true:=by kernel_rfl
@[local go_sem] def ae1:prog.cellsOf 270 =35:=by kernel_rfl
def aal(d:aK)(i:Nat)(h:i<16):ek (d.toList.take (i+1))=(ek (d.toList.take i)++[d[i].toNat/16])++[d[i].toNat%16]:=by
 have e:d.toList.take (i+1)=d.toList.take i++[d[i]]:=by
  rw[eF (by simpa using h),Vector.getElem_toList]
 rw[e,JH];rfl
def Nj(d:aK)(i:Nat)(h:i<=16):(ek (d.toList.take i)).length=2*i:=by
 rw[tQ,dP,oU];omega
def Qw(l:List Nat)(m a b:Nat)(e:l.length=m)(h:m+1<35):((fG l).set m a).set (m+1) b=fG ((l++[a])++[b]):=by
 subst e;have d:=tn l (by omega) a;have c:=tn (l++[a]) (by simp;omega) b;rw[d];rw[bV,jN]at c;exact c
def SY(l:List Nat)(a b:Nat):g_ ((l++[a])++[b])=g_ l+(15-a)+(15-b):=by rw[wV,wV]
def RD(d:aK)(w:aB):Calls prog 207 #[aE (bC d)] w (RG w (aE (cY (i_ d.toList)))):=by
 obtain⟨n,hn⟩:=ex w.heap.size;have N:=aA hn;obtain⟨U0,hU,HG,H0,H1,-⟩:=jP hn (aC (bC d) 22) (aC (cY (fG [])) 270) (aC (cY (fG [])) 270)
 have H2:Hid (HB U0 (n+1+1) (cY (fG (ek (d.toList.take 0)))) 270):=by
  show _=_;rw[<-hU];exact aY _ _ _ (by simp;omega)
 have a9:=aA (aal d);have a8:=aA (Nj d);have H:=aA (Kd d.toList (by simp));have F:Hid (d.toList.take 16=d.toList):=eq (by simp)
 have Q:Hid (∀i,i<=16->g_ (ek (d.toList.take i))<=480):=fun i hi=>by
  have h1:=AP (ek (d.toList.take i));rw[Nj d i hi]at h1;omega
 go_in;go_wp2_with fail;try rw[hU]
 replace hU:=aA hU
 go_loopw [4,5] (fun s j wr=>∃i:Nat,i<=16/\j=.int .i64 (i:Int)/\s=.int .i64 ((g_ (ek (d.toList.take i)):Nat):Int)/\Hid (HB wr n (bC d) 22)/\Hid (HB wr (n+1) (cY (fG [])) 270)/\Hid (HB wr (n+1+1) (cY (fG (ek (d.toList.take i)))) 270)/\Hid (Gr w wr)) (fun _ j _=>16-(intOf j).toNat)
 .exact⟨0,bW _,rfl,rfl,H0,H1,H2,HG⟩
 .
  obtain⟨i,hi,rfl,rfl,hA,hB,U,hG⟩:=hrel;by_cases Y:i<16
  .have q1:(i:Int)<16:=by omega
   have q2:=nn i
   have v:=a9 i Y;have L:=a8 i hi;have E:=Q i hi;have c0:=wF hA i Y;obtain⟨x,hx⟩:=ex (d[i].toNat);have ad:x<256:=by rw[<-hx];exact d[i].toNat_lt
   rw[hx]at v c0;obtain⟨a,W⟩:=ex (x/16);obtain⟨b,X⟩:=ex (x%16);have e1:(x:Int)/16=(a:Int):=by omega
   have e2:(x:Int)%16=(b:Int):=by omega
   have e3:(x:Int).tdiv 16=(a:Int):=by rw[uZ (by omega)];exact e1
   have e4:(x:Int).tmod 16=(b:Int):=by rw[Bj (by omega)];exact e2
   rw[W,X]at v;have ae:a<16:=by omega
   obtain⟨m,hm⟩:=ex (2*i);rw[hm]at L;have t:=aA (Qw (ek (d.toList.take i)) m a b L (by omega));have a6:Hid ((fG (ek (d.toList.take i))).length=35):=BZ _ (by omega);rw[<-v]at t;have a2:g_ (ek (d.toList.take (i+1)))=g_ (ek (d.toList.take i))+(15-a)+(15-b):=by rw[v,SY]
   have a7:=aA a2;generalize D:ek (d.toList.take (i+1))=T at*
   replace D:=aA D;generalize ek (d.toList.take i)=dl at*
   generalize ac:g_ dl=r at*
   generalize aa:fG dl=O at*
   obtain⟨k,Z⟩:=ex (m+1);rw[Z]at t;have w1:IntKind.i64.wrap (2*(i:Int))=(m:Int):=by rw[cV];omega
   have w2:IntKind.i64.wrap ((m:Int)+1)=(k:Int):=by rw[cV];omega
   obtain⟨q,hq⟩:=ex (30-a);obtain⟨q',ab⟩:=ex (q-b);obtain⟨a4,a3⟩:=ex (r+q');have w3:IntKind.i64.wrap (30-(a:Int))=(q:Int):=by rw[cV];omega
   have w4:IntKind.i64.wrap ((q:Int)-(b:Int))=(q':Int):=by rw[cV];omega
   have w5:IntKind.i64.wrap ((r:Int)+(q':Int))=(a4:Int):=by rw[cV];omega
   have G:g_ T=a4:=by rw[a7.out];omega
   have R:=aA G;have p1:=nn m
   have p2:(m:Int)<35:=by omega
   have p3:=nn k
   have p4:(k:Int)<35:=by omega
   have a1:m≠k:=by omega
   have a5:=aA a1;obtain⟨C,f⟩:∃V,wr.drew.setCell ⟨n+1+1,m,none⟩ (.int .i64 (a:Int))=V:=⟨_,rfl⟩;obtain⟨l,g⟩:∃V,C.setCell ⟨n+1+1,k,none⟩ (.int .i64 (b:Int))=V:=⟨_,rfl⟩;have A0:HB wr.drew n (bC d) 22:=hA
   have C0:HB wr.drew (n+1+1) (cY O) 270:=U
   have z:HB C (n+1+1) (cY (O.set m a)) 270:=by rw[<-f];exact qZ C0 m a
   have B:HB l (n+1+1) (cY (fG T)) 270:=by rw[<-g,<-t.out];exact qZ z k b
   have A1:HB C n (bC d) 22:=by rw[<-f];exact(cG _ (aD (n+1+1) m) n _ (by show n≠n+1+1;omega)).trans A0
   have A2:Hid (HB l n (bC d) 22):=g▸(cG _ (aD (n+1+1) k) n _ (by show n≠n+1+1;omega)).trans A1
   have B2:Hid (HB l (n+1) (cY (fG [])) 270):=by
    show _=_;rw[<-g,<-f];exact(cG _ (aD (n+1+1) k) (n+1) _ (by show n+1≠n+1+1;omega)).trans ((cG _ (aD (n+1+1) m) (n+1) _ (by show n+1≠n+1+1;omega)).trans hB)
   have G2:Hid (Gr w l):=by show Gr _ _;rw[<-g,<-f];exact(hG.drew.setOwn (b:=n+1+1) (o:=m) (by have:=N.out;omega) _).setOwn (b:=n+1+1) (o:=k) (by have:=N.out;omega) _
   have X2:=aA B;have J:=a6.out;have c1:wr.drew.cell? (aD n i)=some (.int .u8 (x:Int)):=c0;have c2:C.cell? (aD n i)=some (.int .u8 (x:Int)):=by rw[<-f,World.cell?];show(match(wr.drew.setCell (aD (n+1+1) m) (.int .i64 (a:Int))).heap[n]? with|_=>_)=_;rw[cG _ (aD (n+1+1) m) n _ (by show n≠n+1+1;omega)];exact c1
   have f1:=ee C0 m;have f2:=ee z k;obtain⟨u1,g1⟩:∃u,wr.drew.cell? ⟨n+1+1,m,none⟩=some (.int .i64 u):=⟨_,(bH C0 m).trans (pH _ m (by omega))⟩;obtain⟨u2,g2⟩:∃u,C.cell? ⟨n+1+1,k,none⟩=some (.int .i64 u):=⟨_,(bH z k).trans (pH _ k (by simp;omega))⟩;have k1:l.cell? (aD (n+1+1) m)=some (.int .i64 (a:Int)):=by
    rw[bH B m,<-t.out,pH _ m (by simp;omega)];simp[td a5.out]
   have k2:l.cell? (aD (n+1+1) k)=some (.int .i64 (b:Int)):=by
    rw[bH B k,<-t.out,pH _ k (by simp;omega)];simp
   go_wp2_with fail
   go_big_region
   go_wp2_with fail
   go_quiet (fail)
   have A3:=aA (((Gr.refl l).drewN nq |>.block (aI A2)).trans A2);have M:=aA (((Gr.refl l).drewN nq |>.block (aI B2)).trans B2);have X3:=aA (((Gr.refl l).drewN nq |>.block (aI X2)).trans X2);have G3:=aA (G2.drewN nq);generalize l.drewN nq=S at*
   go_wp2_with fail;go_roundw
   .exact⟨i+1,by omega,by go_num,by rw[D.out,R.out],A3,M,by rw[D.out];exact X3,G3⟩
   .simp[intOf];omega
  .obtain rfl:i=16:=by omega
   have q1:¬((16:Nat):Int)<16:=by omega
   rw[F.out]at U|-
   have E:=Q 16 (aU _);rw[F.out]at E;generalize g_ (ek d.toList)=r at*
   generalize fG (ek d.toList)=O at*
   obtain⟨a,W⟩:=ex (r/256);obtain⟨b,X⟩:=ex (r/16);obtain⟨c,hc⟩:=ex (b%16);obtain⟨e,he⟩:=ex (r%16);have e1:(r:Int)/256=(a:Int):=by omega
   have e2:(r:Int)/16=(b:Int):=by omega
   have e3:(b:Int)%16=(c:Int):=by omega
   have e4:(r:Int)%16=(e:Int):=by omega
   have e5:(r:Int).tdiv 256=(a:Int):=by rw[uZ (by omega)];exact e1
   have e6:(r:Int).tdiv 16=(b:Int):=by rw[uZ (by omega)];exact e2
   have e7:(b:Int).tmod 16=(c:Int):=by rw[Bj (by omega)];exact e3
   have e8:(r:Int).tmod 16=(e:Int):=by rw[Bj (by omega)];exact e4
   have y1:IntKind.i64.wrap (a:Int)=(a:Int):=pA a (by omega);have y2:IntKind.i64.wrap (b:Int)=(b:Int):=pA b (by omega);rw[W,X,hc,he]at H;obtain⟨C,f⟩:∃V,wr.setCell ⟨n+1+1,32,none⟩ (.int .i64 (a:Int))=V:=⟨_,rfl⟩;obtain⟨l,g⟩:∃V,C.setCell ⟨n+1+1,33,none⟩ (.int .i64 (c:Int))=V:=⟨_,rfl⟩;obtain⟨S,I⟩:∃V,l.setCell ⟨n+1+1,34,none⟩ (.int .i64 (e:Int))=V:=⟨_,rfl⟩;have z:HB C (n+1+1) (cY (O.set 32 a)) 270:=by rw[<-f];exact qZ U 32 a
   have B:HB l (n+1+1) (cY ((O.set 32 a).set 33 c)) 270:=by rw[<-g];exact qZ z 33 c
   have C3:HB S (n+1+1) (cY (i_ d.toList)) 270:=by rw[<-I,<-H.out];exact qZ B 34 e
   have J:O.length=35:=by
    have h:=uk d;rw[<-H.out]at h;simpa using h
   have M:HB S (n+1) (cY (fG [])) 270:=by
    rw[<-I,<-g,<-f];exact(cG _ (aD (n+1+1) 34) (n+1) _ (by show n+1≠n+1+1;omega)).trans ((cG _ (aD (n+1+1) 33) (n+1) _ (by show n+1≠n+1+1;omega)).trans ((cG _ (aD (n+1+1) 32) (n+1) _ (by show n+1≠n+1+1;omega)).trans hB))
   have G3:Hid (Gr w S):=by show Gr _ _;rw[<-I,<-g,<-f];exact((hG.setOwn (b:=n+1+1) (o:=32) (by have:=N.out;omega) _).setOwn (b:=n+1+1) (o:=33) (by have:=N.out;omega) _).setOwn (b:=n+1+1) (o:=34) (by have:=N.out;omega) _
   have f1:=ee U 32;have f2:=ee z 33;have f3:=ee B 34;obtain⟨u1,g1⟩:∃u,wr.cell? ⟨n+1+1,32,none⟩=some (.int .i64 u):=⟨_,(bH U.out 32).trans (pH _ 32 (by omega))⟩;obtain⟨u2,g2⟩:∃u,C.cell? ⟨n+1+1,33,none⟩=some (.int .i64 u):=⟨_,(bH z 33).trans (pH _ 33 (by simp;omega))⟩;obtain⟨u3,g3⟩:∃u,l.cell? ⟨n+1+1,34,none⟩=some (.int .i64 u):=⟨_,(bH B 34).trans (pH _ 34 (by simp;omega))⟩;obtain⟨y,p⟩:=ex (i_ d.toList);have K:(cY y).length=35:=by rw[mh,<-p];exact uk d
   have af:=wM y;rw[p]at C3;obtain⟨r0,r1,r2⟩:=dL 35 K C3;have t0:=aP M 0 35 (by rw[mh];decide);have t1:=bE M 0 35;have HE:Hid (HB (S.setCells (n+1) 0 (cY y)) (n+1) (cY y) 270):=bO M (by rw[K,mh];decide)
   have G4:=aA (G3.setsOwn (b:=n+1) (by have:=N.out;omega) (cY y) 0);have P:=aA p;go_wp2_with fail;refine bI (dY rfl _ _ (n+1) _ _ _ _ rfl HE underlying270 rfl (by rw[bQ,K];kernel_rfl)) rfl ?_;exact⟨by first|rfl|(rw[P.out]),G4⟩
end
section
def o6(a:Nat)(d:aK)(e:Nat->aK)(k:Nat):Nat->aK:=fun i=>if i<k then gF a d e i else e i
def aa7(a:Nat)(d:aK)(e:Nat->aK):cB (o6 a d e 0)=cB e:=vZ fun i _=>by unfold o6;rw[aF (by omega)]
def acB(a:Nat)(d:aK)(e:Nat->aK)(k:Nat):cB (o9 (o6 a d e k) k (gF a d e k))=cB (o6 a d e (k+1)):=vZ fun i _=>by
 unfold o9 o6;by_cases h:i=k
 .rw[aG h,aG (by omega),h]
 .rw[aF h]
  by_cases b:i<k
  .rw[aG b,aG (by omega)]
  .rw[aF b,aF (by omega)]
def PW(a:Nat)(d:aK)(e:Nat->aK):cB (o6 a d e 35)=cB (gF a d e):=vZ fun i hi=>by unfold o6;rw[aG hi]
def Qm(a:Nat)(d:aK)(e:Nat->aK)(k:Nat):o6 a d e k k=e k:=by unfold o6;rw[aF (by omega)]
@[local go_sem] def afk:dZ prog 270 =true:=by kernel_rfl
@[local go_sem] def aeq:prog.cellsOf 270 =35:=by kernel_rfl
@[local go_sem ↓ high] def afM (w:aB):Sem.run prog (zeroValue 270) w=.ok (aE (cY (fG []))) w:=by kernel_rfl
def ZG(a:Nat)(hl:a<256)(d:aK)(e:Nat->aK)(w:World):Calls prog 175 #[.int .i64 (a:Int),.agg (bC d).toArray,.agg (cB e).toArray] w (RG w (.agg (cB (gF a d e)).toArray)):=by
 obtain⟨n,hn⟩:=ex w.heap.size;have HN:=aA hn;obtain⟨K,M,HG,H0,-,I⟩:=jP hn (aC (bC d) 22) (aC (cB e) 276) (aC (cB fun _=>aQ) 276)
 have H1:Hid (K.heap[n+1]? =some (aC (cB (o6 a d e 0)) 276)):=by
  show _=_;rw[<-M,aa7];exact(((Gr.refl _).alloc _).block (by simp;omega)).trans (aY _ _ _ (by simp;omega))
 have X:=aA (RD d K)
 have P:Hid (∀i:Nat,i<35->∀W,CG 208 #[.int .i64 (a:Int),.int .i64 (i:Int),.int .i64 (iG d i:Int),.int .i64 ((15:Nat):Int),.agg (bC (e i)).toArray] W (.agg (bC (gF a d e i)).toArray)):=fun i hi W=>by
  have h:=RW a i (iG d i) 15 hl (uD d i) (by decide) (e i) W;rw[show fk a i (iG d i) (15-iG d i) (e i)=gF a d e i from rfl]at h;exact h
 have U:=aA (acB a d e);have S:=aA (PW a d e);have T:=aA (Qm a d e);have g:=aA (uk d);have Q:Hid (∀i (h:i<(i_ d.toList).length),(i_ d.toList)[i]=iG d i):=fun i h=>by unfold iG;rw[eD,cO h];rfl
 generalize i_ d.toList=f at*
 have b1:=aO d;have b3:=mh f;rw[g.out]at b3;have b4:=wM f;obtain⟨r0,r1,r2⟩:=dL 16 b1 H0.out;go_in;go_wp2_with fail;try rw[M]
 replace M:=aA M;refine X.mono ?_;rintro x H ⟨rfl,C⟩;obtain⟨m,N⟩:=ex H.heap.size;have J:(H.alloc (aC (cY (fG [])) 270)).heap[m]? =some (aC (cY (fG [])) 270):=aY _ _ _ N.symm
 have z0:=aP J 0 35 (by rw[mh];decide);have z1:=bE J 0 35;obtain⟨Z,F,-,K2⟩:=gO N (aC (cY f) 270);obtain⟨z,o⟩:=ex ((H.alloc (aC (cY (fG [])) 270)).setCells m 0 (cY f));have HM:Hid (n+1+1<m):=N▸dQ (aI I) C.size
 have G2:Hid (Gr K Z):=F▸C.alloc _
 have G3:Hid (Gr K z):=o▸(C.alloc _).setsOwn (b:=m) (by have:=aI I;rw[<-N];exact C.size) _ _
 have K3:Hid (z.heap[m]? =some (aC (cY f) 270)):=o▸bO J (by rw[b3,mh];decide)
 clear C r0 r1 r2 J;go_wp2_with fail
 clear z0 z1;first
  |(rw[show H.alloc (aC (cY f) 270)=Z from F];generalize Z=WX at*;have r:=G2;have Y:=K2)
  |(rw[show(H.alloc (aC (cY (fG [])) 270)).setCells m 0 (cY f)=z from o];generalize z=WX at*;have r:=G3;have Y:=K3)
  |(generalize z=WX at*;have r:=G3;have Y:=K3)
 go_loopw [8] (fun j wr=>∃i:Nat,i<=35/\j=.int .i64 (i:Int)/\Hid (wr.heap[m]? =some (aC (cY f) 270))/\Hid (wr.heap[n+1]? =some (aC (cB (o6 a d e i)) 276))/\Hid (wr.heap[n+1+1]? =some (aC (cB fun _=>aQ) 276))/\Hid (Gr w wr)) (fun j _=>35-(intOf j).toNat)
 .exact⟨0,bW _,rfl,Y,(r.block (aI H1)).trans H1,(r.block (aI I)).trans I,HG.trans r⟩
 .
  obtain⟨i,hi,rfl,L,k,D,hG⟩:=hrel;by_cases c:i<35
  .have q1:(i:Int)<35:=by omega
   have q2:=nn i
   have s:=aA (P i c);have t:=aA (U i);have G:=Q i (by rw[g.out];exact c);have HF:Hid (∀V,Gr wr V->V.cell? ⟨m,i,none⟩=some (.int .i64 (iG d i:Int))/\hasRow V ⟨n+1,i*16,none⟩ 16=true/\rowAt V ⟨n+1,i*16,none⟩ 16=bC (e i)/\m<V.heap.size/\n+1<V.heap.size/\gz V ⟨n+1,i*16,none⟩ 16=true):=by
    intro V l;have O:=(l.block (aI L)).trans L;have p:=(l.block (aI k)).trans k;refine⟨?_,aP p _ 16 (by rw[en];omega),?_,aI O,aI p,bE p _ 16⟩
    .rw[bH O i,pH _ i (by rw[g.out];exact c),G]
    .rw[bJ p _ 16 (by rw[en];omega),Ch _ i c,T.out]
   have v:Hid (∀V,Gr wr V->(V.setCells (n+1) (i*16) (bC (gF a d e i))).heap[m]? =some (aC (cY f) 270)/\(V.setCells (n+1) (i*16) (bC (gF a d e i))).heap[n+1]? =some (aC (cB (o6 a d e (i+1))) 276)/\(V.setCells (n+1) (i*16) (bC (gF a d e i))).heap[n+1+1]? =some (aC (cB fun _=>aQ) 276)/\Gr w (V.setCells (n+1) (i*16) (bC (gF a d e i)))):=by
    intro V l;have O:=(l.block (aI L)).trans L;have p:=(l.block (aI k)).trans k;have k2:=(l.block (aI D)).trans D;refine⟨(cD (by have:=HM.out;omega) _ _ _).trans O,?_,(cD (by omega) _ _ _).trans k2,(hG.trans l).setsOwn (b:=n+1) (by have:=HN.out;omega) _ _⟩;rw[wP p i c,t.out]
   have B:=aO (gF a d e i);have c2:=cZ (gF a d e i);generalize gF a d e i=y at*
   generalize e i=x at*
   generalize iG d i=dg at*
   clear G;obtain⟨f1,f2,f3,f4,f5,f6⟩:=HF.out wr (Gr.refl wr);go_wp2_with fail;refine jd 10 (fun u=>∃q:GD,u=gw wr q) (by kernel_rfl) (by kernel_rfl) (nM wr) ?_;simp only[gR,fy,ib,gd];repeat (go_big_quiet_step ((go_at_call 208;with_reducible exact eE (s.out _))))
   refine cX ?_;rintro _ ⟨q,rfl⟩;obtain⟨u1,u2,u3,u4⟩:=v.out (gw wr q) (cK wr q);have U1:=aA u1;have U2:=aA u2;have U3:=aA u3;have U4:=aA u4;clear u1 u2 u3 u4 f1 f2 f3 f4 f5 f6;obtain⟨-,f2,-,-,f5,f6⟩:=HF.out (gw wr q) (cK wr q);generalize gw wr q=V at*
   go_wp2_with fail;go_roundw
   .exact⟨i+1,by omega,by go_num,U1,U2,U3,U4⟩
   .simp[intOf];omega
  .obtain rfl:i=35:=by omega
   have q1:¬((35:Nat):Int)<35:=by omega
   rw[S.out]at k;obtain⟨E,hE⟩:=ex (cB (gF a d e));have B:=en (gF a d e);have c2:=uU (gF a d e);rw[hE]at k B c2;have R:=aA hE;obtain⟨r0,r1,r2⟩:=dL 560 B k.out;have z0:=aP D 0 560 (by rw[en];decide);have z1:=bE D 0 560;have HE:Hid ((wr.setCells (n+1+1) 0 E).heap[n+1+1]? =some (aC E 276)):=bO D (by rw[B,en])
   have G4:=aA (hG.setsOwn (b:=n+1+1) (by have:=HN.out;omega) E 0);clear hE;go_wp2_with fail;refine bI (dY rfl _ _ (n+1+1) _ _ _ _ rfl HE underlying276 rfl (by rw[bQ,B];kernel_rfl)) rfl ?_;exact⟨by first|rfl|(rw[R.out]),G4⟩
end
def NY(i:Nat)(hi:i<256)(v:Value)(l:aM)(w:aB)(X:l.length<=1000)(C:gC w v l):Calls prog 135 #[.int .i64 (i:Int),v] w (RG w (aE (bC (jx i l)))):=by
 obtain⟨n,B⟩:=ex w.heap.size;have H:=aA B;have m:=aA (JI 0 i hi);obtain⟨b,p⟩:=ex (UInt8.ofNat i);have R:IntKind.u32.wrap (i:Int)=(i:Int):=by rw[Bx];omega
 have S:(i:Int)/16777216=0:=by omega
 have T:(i:Int)/65536=0:=by omega
 have U:(i:Int)/256=0:=by omega
 have V:IntKind.u8.wrap (i:Int)=(b.toNat:Int):=by rw[<-p];exact o7 i
 rw[p]at m;have d:=aA (show cF ([0,0,0,0,b]++l)=jx i l by rw[<-m.out];rfl)
 obtain⟨a,L,t,s⟩:=gO B (aC (uL eO) 229)
 have j:=aA (show a.heap.size=n+1 by rw[<-L];simp;omega)
 have u:Hid (aZ (a.alloc (.cells #[.int .u8 0,.int .u8 0,.int .u8 0,.int .u8 0,.int .u8 (b.toNat:Int)] 5)) (n+1) (aR (n+1) 0 5 5) [0,0,0,0,b]):=aZ.made (l:=[0,0,0,0,b]) (aY a _ _ j.symm) (aU _) (by simp);have q:Hid (Gr a (a.alloc (.cells #[.int .u8 0,.int .u8 0,.int .u8 0,.int .u8 0,.int .u8 (b.toNat:Int)] 5))):=(Gr.refl a).alloc _;have I:Hid (bX (a.alloc (.cells #[.int .u8 0,.int .u8 0,.int .u8 0,.int .u8 0,.int .u8 (b.toNat:Int)] 5)) v 1 (iV l)):=(C.gr (t.trans q)).sl;have J:=aA (show n+1<=(a.alloc (.cells #[.int .u8 0,.int .u8 0,.int .u8 0,.int .u8 0,.int .u8 (b.toNat:Int)] 5)).heap.size by have:=j.out;simp;omega)
 obtain⟨y,D⟩:=ex (jx i l);rw[D]at d|-
 have z:=aO y;have Q:=cZ y;have N:=j.out;go_in;go_wp2_with (at_builtin;refine uo _ rfl (.tmp 19) (.tmp 20) rfl (n+1) (aR (n+1) 0 5 5) [0,0,0,0,b] (by simp[Act.eval]) u v l (by simp[Act.eval]) I (5+l.length) rfl (by omega) J ?_;intro K O E h f);have r:Hid (Gr a E):=q.grown f (fun k M=>by have W:=(fA u k M).1;have:=j.out;omega);have c:=aA (Ma (.slice K (5+l.length) O) _ E (by simp;omega) h.bytG);rw[d.out]at c;go_wp2_with fail;refine bA c fun P g=>?_;have o:=aA (((r.trans g).block (aI s)).trans s);have Y:=aP o 0 16 (by simp[dJ,jf]);have Z:=bE o 0 16;have G:Hid (HB (P.setCells n 0 (bC y)) n (bC y) 229):=bO o (by rw[z,dJ,jf])
 have F:=aA ((t.trans (r.trans g)).setsOwn (b:=n) (by have:=H.out;omega) (bC y) 0);go_wp2_with fail;refine bI (dY rfl _ _ n _ _ _ _ rfl G underlying229 rfl (by rw[bQ,z];kernel_rfl)) rfl ?_;exact⟨rfl,F⟩
def Gw(p l:aM)(k:Nat)(x:UInt8)(h:l[k]? =some x):(p++l.take k)++[x]=p++l.take (k+1):=by
 have a:k<l.length:=by
  rcases th k l.length with q|q
  .exact q
  .rw[kZ q]at h;cases h
 have b:l[k]=x:=by rw[cO a]at h;exact iP h
 rw[eF a,b,fl]
def adi(d:Nat)(a b:aK)(w:aB):Calls prog 136 #[.int .i64 (d:Int),aE (bC a),aE (bC b)] w (RG w (aE (bC (ia d a b)))):=by
 obtain⟨n,X⟩:=ex w.heap.size;have HN:=aA X;obtain⟨x,Z⟩:=ex (UInt8.ofNat d);have e1:IntKind.u8.wrap (d:Int)=(x.toNat:Int):=by rw[<-Z];exact o7 d
 have D:=aA (show cF (([1,x]++a.toList)++b.toList)=ia d a b by rw[<-Z];rfl)
 obtain⟨y,hy⟩:=ex (ia d a b);rw[hy]at D|-
 obtain⟨r,W,HG,H0,H1,H2⟩:=jP X (aC (bC a) 229) (aC (bC b) 229) (aC (uL eO) 229)
 obtain⟨B,N⟩:=ex r.heap.size;have M:=aA N;have u:Hid (Gr r (r.alloc (.cells #[.int .u8 1,.int .u8 (x.toNat:Int)] 5))):=(Gr.refl r).alloc _;have F:Hid (aZ (r.alloc (.cells #[.int .u8 1,.int .u8 (x.toNat:Int)] 5)) B (aR B 0 2 2) ([1,x]++a.toList.take 0)):=aZ.made (l:=[1,x]) (aY r _ _ N.symm) (aU _) (by simp);have Q:Hid (a.toList.take 16=a.toList):=eq (by simp);have R:Hid (b.toList.take 16=b.toList):=eq (by simp);have c1:=aO y;have c2:=cZ y;go_in;go_wp2_with fail;try rw[W]
 try rw[N]
 replace W:=aA W
 go_loopw [7,8] (fun s j wr=>∃(k:Nat) (t:dB) (c:Nat),k<=16/\j=.int .i64 (k:Int)/\s=.slice t (2+k) c/\Hid (aZ wr B s ([1,x]++a.toList.take k))/\Hid (Gr r wr)) (fun _ j _=>16-(intOf j).toNat)
 .exact⟨0,_,_,bW _,rfl,rfl,F,u⟩
 .
  obtain⟨k,t,c,hk,rfl,rfl,h,i⟩:=hrel;obtain⟨m,O⟩:=ex (2+k);rw[O]at h|-
  by_cases g:k<16
  .have P:(k:Int)<16:=by omega
   have q2:=nn k
   have J:=(i.block (aI H0)).trans H0;have f1:=wF J k g;have E:=aA (Gw [1,x] a.toList k a[k] (by rw[qz,qB g]));have C:=aA (show ([1,x]++a.toList.take k).length=m by simp;omega)
   generalize a[k]=z at*
   obtain⟨pr,f⟩:=ex ([1,x]++a.toList.take k);rw[f]at h E C;replace f:=aA f;have G:=aA (h.gr ((Gr.refl wr).alloc (.cells #[.int .u8 (z.toNat:Int)] 5)));have zB:B<=wr.heap.size:=by have:=i.size;have:=M.out;omega
   have V:Hid (aZ (wr.alloc (.cells #[.int .u8 (z.toNat:Int)] 5)) B (aR (wr.heap.size) 0 1 1) [z]):=aZ.made (l:=[z]) (cM wr _) zB (by simp);have z7:B<=(wr.alloc (.cells #[.int .u8 (z.toNat:Int)] 5)).heap.size:=by simp;omega
   go_wp2_with (at_builtin;refine pp _ rfl (.tmp 17) (.tmp 21) rfl B (.slice t m c) pr (by simp[Act.eval]) G (aR (wr.heap.size) 0 1 1) [z] (by simp[Act.eval]) V (m+1) ?g1 ?g2 z7 ?_)
   case g1=>rw[C.out];rfl
   case g2=>omega
   intro H K L p o;have S:Hid (Gr r L):=(i.alloc _).grown o (fun q Y=>by have h1:=(fA G q Y).1;have:=M.out;omega);have U:Hid (aZ L B (.slice H (m+1) K) ([1,x]++a.toList.take (k+1))):=by show aZ _ _ _ _;rw[<-E.out];exact p
   go_wp2_with fail;go_roundw
   .exact⟨k+1,H,K,by omega,by go_num,by rw[show 2+(k+1)=m+1 by omega],U,S⟩
   .simp[intOf];omega
  .obtain rfl:k=16:=by omega
   have P:¬((16:Nat):Int)<16:=by omega
   rw[Q.out]at h;have F:Hid (aZ wr B (.slice t m c) (([1,x]++a.toList)++b.toList.take 0)):=by show aZ _ _ _ _;rw[fy,je];exact h
   have u:=i;obtain rfl:m=18:=by omega
   go_wp2_with fail;generalize wr=a2 at*
   go_loopw [7,9] (fun s j wr=>∃(k:Nat) (t:dB) (c:Nat),k<=16/\j=.int .i64 (k:Int)/\s=.slice t (18+k) c/\Hid (aZ wr B s (([1,x]++a.toList)++b.toList.take k))/\Hid (Gr r wr)) (fun _ j _=>16-(intOf j).toNat)
   .exact⟨0,_,_,bW _,rfl,rfl,F,u⟩
   .
    obtain⟨k,t,c,hk,rfl,rfl,h,i⟩:=hrel;obtain⟨m,O⟩:=ex (18+k);rw[O]at h|-
    by_cases g:k<16
    .have P:(k:Int)<16:=by omega
     have q2:=nn k
     have J:=(i.block (aI H1)).trans H1;have f1:=wF J k g;have E:=aA (Gw ([1,x]++a.toList) b.toList k b[k] (by rw[qz,qB g]));have C:=aA (show (([1,x]++a.toList)++b.toList.take k).length=m by simp;omega)
     generalize b[k]=z at*
     obtain⟨pr,f⟩:=ex (([1,x]++a.toList)++b.toList.take k);rw[f]at h E C;replace f:=aA f;have G:=aA (h.gr ((Gr.refl wr).alloc (.cells #[.int .u8 (z.toNat:Int)] 5)));have zB:B<=wr.heap.size:=by have:=i.size;have:=M.out;omega
     have V:Hid (aZ (wr.alloc (.cells #[.int .u8 (z.toNat:Int)] 5)) B (aR (wr.heap.size) 0 1 1) [z]):=aZ.made (l:=[z]) (cM wr _) zB (by simp);have z7:B<=(wr.alloc (.cells #[.int .u8 (z.toNat:Int)] 5)).heap.size:=by simp;omega
     go_wp2_with (at_builtin;refine pp _ rfl (.tmp 27) (.tmp 31) rfl B (.slice t m c) pr (by simp[Act.eval]) G (aR (wr.heap.size) 0 1 1) [z] (by simp[Act.eval]) V (m+1) ?g1 ?g2 z7 ?_)
     case g1=>rw[C.out];rfl
     case g2=>omega
     intro H K L p o;have S:Hid (Gr r L):=(i.alloc _).grown o (fun q Y=>by have h1:=(fA G q Y).1;have:=M.out;omega);have U:Hid (aZ L B (.slice H (m+1) K) (([1,x]++a.toList)++b.toList.take (k+1))):=by show aZ _ _ _ _;rw[<-E.out];exact p
     go_wp2_with fail;go_roundw
     .exact⟨k+1,H,K,by omega,by go_num,by rw[show 18+(k+1)=m+1 by omega],U,S⟩
     .simp[intOf];omega
    .obtain rfl:k=16:=by omega
     have P:¬((16:Nat):Int)<16:=by omega
     rw[R.out]at h;have v:=aA (Ma (.slice t m c) _ wr (by simp) h.bytG);rw[D.out]at v;go_wp2_with fail;refine bA v fun w6 I=>?_;have T:=aA (((i.trans I).block (aI H2)).trans H2);have z1:=aP T 0 16 (by simp[dJ,jf]);have z2:=bE T 0 16;have HE:Hid (HB (w6.setCells (n+1+1) 0 (bC y)) (n+1+1) (bC y) 229):=bO T (by rw[c1,dJ,jf])
     have G2:=aA ((HG.trans (i.trans I)).setsOwn (b:=n+1+1) (by have:=HN.out;omega) (bC y) 0);go_wp2_with fail;refine bI (dY rfl _ _ (n+1+1) _ _ _ _ rfl HE underlying229 rfl (by rw[bQ,c1];kernel_rfl)) rfl ?_;exact⟨rfl,G2⟩
end Go.Proofs.YtjfaogajmoffoaaGreatDoor
