/- Lemmas for VerifyStatus. -/
import Derived.Test.YtjfaogajmoffoaaGreatDoorQPA9
set_option maxRecDepth 100000
set_option maxHeartbeats 16000000
set_option linter.all false
namespace Go.Proofs.YtjfaogajmoffoaaGreatDoor
open Go.RowKit Tryz
def Aq:Value->Nat
 | .slice _ n _=>n
 |_=>0
def Rx(N c:Nat):IntKind.u8.wrap ((N:Int)*8/(c:Int))=((UInt8.ofNat (8*N/c)).toNat:Int):=by
 have:=o7 (8*N/c);rw[<-this];congr 1
 push_cast
 rw[Int.mul_comm]
def UJ(n:Nat):(n+1+fN n)%64=56:=by unfold fN;omega
def abx(n k:Nat)(h:k<fN n):(n+1+k)%64≠56:=by unfold fN at h;omega
def mg(l:aM)(k:Nat):aM:=l++(128::List.replicate k 0)
def abJ(l:aM)(k:Nat):mg l (k+1)=mg l k++[0]:=by
 unfold mg;rw[tE,fl];rfl
def aaU(l:aM)(k:Nat):(mg l k).length=l.length+1+k:=by unfold mg;simp;omega
def mp(n k:Nat):aM:=(mu n).take k
def Tg(n k:Nat)(h:k<8):mp n (k+1)=mp n k++[UInt8.ofNat (8*n/2^(56-8*k))]:=by
 have a:(mu n).length=8:=by simp[mu]
 unfold mp;rw[eF (by omega)];congr 1;simp[mu]
def YA(n k:Nat)(h:k<=8):(mp n k).length=k:=by
 have a:(mu n).length=8:=by simp[mu]
 unfold mp;rw[dP];omega
def Ps(l:aM):jy l=mg l (fN l.length)++mp l.length 8:=by
 have a:(mu l.length).length=8:=by simp[mu]
 unfold jy px mg mp;rw[eq (by omega),fl];rfl
def acV(v:Value)(l:aM)(w:aB)(hl:l.length<=900000)(hv:gC w v l):Calls prog 83 #[v] w fun e w'=>∃v',e=.returned v'/\aZ w' w.heap.size v' (jy l)/\Gr w w':=by
 have HV:=aA hv;obtain⟨va,vc,ax,aw,_⟩:=hv;subst ax;have HP:=aA (Ps l);have HN:=aA (UJ l.length);have U:=aA (abx l.length);have HS:=aA (abJ l);have M:=aA (aaU l);have a8:=aA (show fN l.length<64 by unfold fN;omega)
 have HC:=aA (Tg l.length);have S:=aA (YA l.length);obtain⟨N,hN⟩:=ex l.length;have a2:=aA hN;obtain⟨P,hP⟩:=ex (fN l.length);rw[hP]at HP HN U a8;rw[hN]at HP HN U HC S M;clear hP;obtain⟨g,ag⟩:=ex w.heap.size;have r:=aA ag;have O0:Hid (aZ (w.alloc (.cells #[] 5)) g (.slice (some ⟨g,0,none⟩) 0 0) []):=aZ.made (l:=[]) (aY w _ g ag.symm) (by omega) (by simp);have W:Hid (bX (w.alloc (.cells #[] 5)) (.slice va l.length vc) 1 (iV l)):=(HV.gr ((Gr.refl w).alloc _)).sl;rw[hN]at W aw hl|-
 clear hN;go_in;go_wp2_with (at_builtin;refine uo _ rfl (.tmp 6) (.tmp 7) rfl g (.slice (some ⟨g,0,none⟩) 0 0) [] (by simp[Act.eval]) O0 (.slice va N vc) l (by simp[Act.eval]) W N ?e3 ?e4 ?e5 ?e6)
 case e3=>(have:=a2.out;simp;exact this)
 case e4=>omega
 case e5=>(simp;omega)
 intro a3 n3 R ad a9;have V:=aA ad;have T:Hid (Gr w R):=((Gr.refl w).alloc _).grown a9 (fun k Y=>by have h:g=k:=iP Y;have:=r.out;omega);have z3:g<=R.heap.size:=by have:=T.size;have:=r.out;omega
 have H:=aA (V.gr ((Gr.refl R).alloc (.cells #[.int .u8 128] 5)));have I:Hid (aZ (R.alloc (.cells #[.int .u8 128] 5)) g (.slice (some ⟨R.heap.size,0,none⟩) 1 1) [128]):=aZ.made (l:=[128]) (cM R _) z3 (by simp);have z7:g<=(R.alloc (.cells #[.int .u8 128] 5)).heap.size:=by simp;omega
 clear ad a9;go_wp2_with (at_builtin;refine pp _ rfl (.tmp 8) (.tmp 9) rfl g (.slice a3 N n3) l (by simp[Act.eval]) H (.slice (some ⟨R.heap.size,0,none⟩) 1 1) [128] (by simp[Act.eval]) I (N+1) ?f1 ?f2 z7 ?_)
 case f1=>(have:=a2.out;rw[jN];omega)
 case f2=>omega
 intro a5 n5 w5 ae aa;have y:∀k,(Value.slice a3 N n3).ownBlock=some k->g<=k:=fun k Y=>(fA V k Y).1;have ah:Hid (Gr w w5):=(T.alloc _).grown aa (fun k Y=>by have:=y _ Y;have:=r.out;omega);have aj:Hid (aZ w5 g (.slice a5 (N+1) n5) (mg l 0)):=ae;clear ae aa y O0 W H I V T z3 z7;go_wp2_with fail
 go_loopw [3] (fun v wr=>∃(k:Nat) (a:dB) (c:Nat),k<=P/\v=.slice a (N+1+k) c/\Hid (Gr w wr)/\Hid (aZ wr g v (mg l k))) (fun v _=>N+100-Aq v)
 .exact⟨0,a5,n5,bW _,rfl,ah,aj⟩
 .
  obtain⟨k,a,c,Y,rfl,hG,hO⟩:=hrel;have a0:k<64:=xh Y a8;obtain⟨j,hj⟩:=ex ((N+1+k)%64);have ht:=AH hj;have ac:j<64:=xm (aH rfl) hj;by_cases aq:k<P
  .have b1:j≠56:=by
    have:=U k aq;omega
   have Q:((N:Int)+1+(k:Int))%64=(j:Int):=by omega
   have am:((j:Int)==56)=false:=dI.2 (by omega);have az:((j:Int) != 56)=true:=by simp[bne,am]
   have Z:g<=wr.heap.size:=by have:=hG.size;have:=r.out;omega
   have H:=aA (hO.gr ((Gr.refl wr).alloc (.cells #[.int .u8 0] 5)));have I:Hid (aZ (wr.alloc (.cells #[.int .u8 0] 5)) g (.slice (some ⟨wr.heap.size,0,none⟩) 1 1) [0]):=aZ.made (l:=[0]) (cM wr _) Z (by simp);have z7:g<=(wr.alloc (.cells #[.int .u8 0] 5)).heap.size:=by simp;omega
   go_wp2_with (at_builtin;refine pp _ rfl (.tmp 15) (.tmp 16) rfl g (.slice a (N+1+k) c) (mg l k) (by simp[Act.eval]) H (.slice (some ⟨wr.heap.size,0,none⟩) 1 1) [0] (by simp[Act.eval]) I (N+1+(k+1)) ?g1 ?g2 z7 ?_)
   case g1=>(have:=M k;rw[jN];omega)
   case g2=>omega
   intro a6 n6 w6 af ab;have y:∀q,(Value.slice a (N+1+k) c).ownBlock=some q->g<=q:=fun q E=>(fA hO q E).1;have ai:Hid (Gr w w6):=(hG.alloc _).grown ab (fun q E=>by have:=y _ E;have:=r.out;omega);have ak:Hid (aZ w6 g (.slice a6 (N+1+(k+1)) n6) (mg l (k+1))):=by show aZ _ _ _ _;rw[HS.out k];exact af
   clear af ab y H I z7;go_wp2_with fail;go_roundw
   .exact⟨k+1,a6,n6,by omega,rfl,ai,ak⟩
   .simp[Aq];omega
  .have ap:k=P:=by omega
   have ao:j=56:=by
    have:=HN.out;omega
   subst ao;subst ap;clear ht hj ac
   have Q:((N:Int)+1+(k:Int))%64=56:=by have:=HN.out;omega
   have al:Hid (aZ wr g (.slice a (N+1+k) c) (mg l k++mp N 0)):=by
    show aZ _ _ _ _;rw[show mp N 0=[]from rfl,je];exact hO
   have a4:Hid (∀m,m<=8->(mg l k++mp N m).length=N+1+k+m):=fun m hm=>by rw[bV,M.out k,S.out m hm]
   have a1:Hid (∀m,m<8->mg l k++mp N (m+1)=(mg l k++mp N m)++[UInt8.ofNat (8*N/2^(56-8*m))]):=fun m hm=>by rw[HC.out m hm,fl]
   have L:=aA (Rx N);clear hO HC S M HS;go_wp2_with fail;clear Q;generalize wr=W4 at*
   generalize av:mg l k=n at*
   clear av
   go_loopw [3,5] (fun v i ws=>∃(m:Nat) (J:dB) (K:Nat),m<=8/\i=.int .i64 (7-(m:Int))/\v=.slice J (N+1+k+m) K/\Hid (Gr w ws)/\Hid (aZ ws g v (n++mp N m))) (fun v _ _=>N+200-Aq v)
   .exact⟨0,a,c,bW _,rfl,rfl,hG,al⟩
   .
    obtain⟨m,J,K,hm,rfl,rfl,D,X⟩:=hrel;by_cases ar:m<8
    .have O:=aA (a1 m ar)
     have G:=aA (a4 m (by omega));have Z:g<=wr.heap.size:=by have:=D.size;have:=r.out;omega
     have H:=aA (fun x:UInt8=>X.gr ((Gr.refl wr).alloc (.cells #[.int .u8 (x.toNat:Int)] 5)));have I:Hid (∀x:UInt8,aZ (wr.alloc (.cells #[.int .u8 (x.toNat:Int)] 5)) g (.slice (some ⟨wr.heap.size,0,none⟩) 1 1) [x]):=fun x=>aZ.made (l:=[x]) (cM wr _) Z (by simp);have z7:Hid (∀x:UInt8,g<=(wr.alloc (.cells #[.int .u8 (x.toNat:Int)] 5)).heap.size):=fun x=>by simp;omega
     have y:∀q,(Value.slice J (N+1+k+m) K).ownBlock=some q->g<=q:=fun q E=>(fA X q E).1;have F:=aA y;clear y;have an:m=0\/m=1\/m=2\/m=3\/m=4\/m=5\/m=6\/m=7:=by omega
     obtain⟨x,b⟩:=ex (UInt8.ofNat (8*N/2^(56-8*m)))
     have t:=L (2^(56-8*m));rw[b]at t;have s:=aA (show n++mp N (m+1)=(n++mp N m)++[x] by rw[O.out,<-b])
     obtain⟨p,e⟩:=ex (m+1);rw[e]at s;have e:=aA e;obtain⟨q,f⟩:=ex (N+1+k+p);have f:=aA f;clear b
     rcases an with rfl|rfl|rfl|rfl|rfl|rfl|rfl|rfl
     all_goals
      simp[gg]at t
      try rw[Int.emod_eq_of_lt (by omega) (by omega)]at t
      go_wp2_with (at_builtin;refine pp _ rfl (.tmp 26) (.tmp 32) rfl g _ _ ?h1 (H x) _ [x] ?h2 (I x) q ?g1 ?g2 (z7 x) ?_)
      case h1=>simp[Act.eval]
      case h2=>simp[Act.eval]
      case g1=>(have:=G.out;have:=e.out;have:=f.out;rw[jN];omega)
      case g2=>(have:=e.out;have:=f.out;omega)
      intro z B C Y d;have o:Hid (Gr w C):=(D.alloc _).grown d (fun q E=>by have:=F _ E;have:=r.out;omega);have U:Hid (aZ C g (.slice z q B) (n++mp N p)):=by show aZ _ _ _ _;rw[s.out,fl];exact Y
      clear Y d t;go_wp2_with fail;go_roundw
      .exact⟨p,z,B,by have:=e.out;omega,by rw[<-e.out];go_num,by rw[f.out],o,U⟩
      .simp[Aq];have:=e.out;have:=f.out;omega
    .have au:m=8:=by omega
     subst au;clear a4 a1 L;go_wp2_with fail;go_ret;refine⟨.slice J (N+1+k+8) K,rfl,?_,D⟩;rw[HP.out,r.out];exact X
def Dp(x y n:UInt32):(x|||y)<<<n=x<<<n|||y<<<n:=by
 apply UInt32.eq_of_toBitVec_eq;simp[BitVec.shiftLeft_or_distrib]
def De(x:UInt32)(a b c:UInt32)(e:a.toNat<32)(f:b.toNat<32)(g:c.toNat=a.toNat+b.toNat)(d:c.toNat<32):(x<<<a)<<<b=x<<<c:=by
 apply UInt32.toNat_inj.1;rw[vP,vP,vP,nF e,nF f,nF d,g];simp only[Bt];rw[Cd,<-xr];rw[Nat.mod_mul_mod]
def ab3(p q r s:UInt8):p.toUInt32<<<24|||q.toUInt32<<<16|||r.toUInt32<<<8|||s.toUInt32=w4 p q r s:=by
 unfold w4;rw[Dp,Dp,Dp,De p.toUInt32 8 8 16 (aH rfl) (aH rfl) (aH rfl) (aH rfl),De p.toUInt32 16 8 24 (aH rfl) (aH rfl) (aH rfl) (aH rfl),De q.toUInt32 8 8 16 (aH rfl) (aH rfl) (aH rfl) (aH rfl)]
def kD(m:Nat->UInt32)(t:Nat):Vector UInt32 64:=Vector.ofFn fun j:Fin 64=>if j.val<t then wT m j.val else 0
def yS(m:Nat->UInt32)(t j:Nat)(h:j<64):(kD m t)[j]=if j<t then wT m j else 0:=by unfold kD;rw[El]
def Vk(m:Nat->UInt32):kD m 0=Vector.replicate 64 0:=by
 apply sB;intro j a;rw[yS _ _ _ a,Vector.getElem_replicate,aF (lZ _)]
def ZP(m:Nat->UInt32)(t:Nat)(h:t<64):(kD m t).set t (wT m t) h=kD m (t+1):=by
 apply sB;intro j b;rw[Ei];split
 .rename_i e;subst e;rw[yS _ _ _ b,aG (xO _)]
 .rename_i e
  rw[yS _ _ _ b,yS _ _ _ b];by_cases a:j<t
  .rw[aG a,aG (by omega)]
  .rw[aF a,aF (by omega)]
def LY(m:Nat->UInt32)(t j:Nat)(h:j<64)(a:j<t):(kD m t)[j]=wT m j:=by rw[yS _ _ _ h,aG a]
def TV(m:Nat->UInt32)(t:Nat)(h:16<=t):wT m t=sw (wT m (t-2))+wT m (t-7)+rU (wT m (t-15))+wT m (t-16):=by
 rw[wT,aF (by omega)]
def qC(x y:Wd):Nat->Wd
 |0=>x
 |1=>⟨x.a+y.a,x.b,x.c,x.d,x.e,x.f,x.g,x.i⟩
 |2=>⟨x.a+y.a,x.b+y.b,x.c,x.d,x.e,x.f,x.g,x.i⟩
 |3=>⟨x.a+y.a,x.b+y.b,x.c+y.c,x.d,x.e,x.f,x.g,x.i⟩
 |4=>⟨x.a+y.a,x.b+y.b,x.c+y.c,x.d+y.d,x.e,x.f,x.g,x.i⟩
 |5=>⟨x.a+y.a,x.b+y.b,x.c+y.c,x.d+y.d,x.e+y.e,x.f,x.g,x.i⟩
 |6=>⟨x.a+y.a,x.b+y.b,x.c+y.c,x.d+y.d,x.e+y.e,x.f+y.f,x.g,x.i⟩
 |7=>⟨x.a+y.a,x.b+y.b,x.c+y.c,x.d+y.d,x.e+y.e,x.f+y.f,x.g+y.g,x.i⟩
 |_=>mb x y
def ac7(x y:Wd):qC x y 8=mb x y:=rfl
def acG(s:Wd):(iA s).length=8:=rfl
def PX(x y:Wd)(k:Nat)(h:k<8):(iA (qC x y k)).set k ((iA (qC x y k))[k]'h+(iA y)[k]'h)=iA (qC x y (k+1)):=by
 have a:k=0\/k=1\/k=2\/k=3\/k=4\/k=5\/k=6\/k=7:=by omega
 rcases a with rfl|rfl|rfl|rfl|rfl|rfl|rfl|rfl<;>rfl
def Ym(s:Wd)(i:Nat)(h:i<32):(kf s)[i]? =some (((iA s)[i/4]'(by rw[acG];omega))>>>(UInt32.ofNat (24-8*(i%4)))).toUInt8:=by
 have:=Ki s (i/4) (i%4) (by omega) (qS _ (aH rfl));rw[show 4*(i/4)+i%4=i by omega]at this;exact this
def vX(p:Vector UInt32 64):bF:=p.toList.map cW
def oh(p:Vector UInt32 64):(vX p).length=64:=by simp[vX]
def Ap(p:Vector UInt32 64)(j:Nat)(h:j<64):(vX p)[j]? =some (cW p[j]):=by
 unfold vX;rw[fo,qz,qB h];rfl
def Ud(p:Vector UInt32 64)(j:Nat)(h:j<64)(x:UInt32):(vX p).set j (cW x)=vX (p.set j x h):=by
 unfold vX;rw[<-tX,Vector.toList_set]
def wS(p:Vector UInt32 64):cN (vX p)=true:=by
 simp only[cN,vX,v6,gY];intro b _;rfl
def zX:Vector UInt32 64:=Vector.replicate 64 0
@[go_sem] def ae0:dZ prog 167 =true:=by kernel_rfl
@[go_sem] def ae5:prog.cellsOf 167 =64:=by kernel_rfl
@[go_sem ↓ high] def aem (w:aB):Sem.run prog (zeroValue 167) w=.ok (aE (vX zX)) w:=by kernel_rfl
attribute [go_sem] oh wS
@[go_sem] def agO (x:UInt32):IntKind.u32.wrap (nW x*(65536:Int))=nW (x<<<16):=xJ x 16 (aH rfl)
@[go_sem] def afC (x:UInt32):IntKind.u32.wrap (nW x*(16777216:Int))=nW (x<<<24):=xJ x 24 (aH rfl)
def MQ(x:UInt32)(n:Int)(w:aB)(a:0<n)(b:n<32):Calls prog 85 #[.int .u32 (nW x),.int .i64 n] w (RG w (.int .u32 (nW (rI x n)))):=
 (V9 x n w a b).mono fun _ _ ⟨c,k,d⟩=>⟨c,d▸(Gr.refl w).drewN k⟩
def AA{w:aB}{g o:Nat}{l:aM}(h:cS w g o l)(j:Nat)(a:j<l.length):w.cell? (aD g (o+j))=some (.int .u8 (l[j].toNat:Int)):=h.2 j l[j] (cO a)
def Ak(l:aM)(j:Nat)(a:j<l.length):l.getD j 0=l[j]:=by rw[eD,cO a];rfl
def ac'(g o c:Nat)(l:aM)(hl:l.length=64)(w:aB)(h:cS w g o l):Calls prog 84 #[aR g o 64 c] w (RG w (aE (vX (kD (el l) 64)))):=by
 have HL:=aA hl;have T:=aA h;have W:Hid (kD (el l) 0=zX):=Vk _;have hr:Hid (∀(x:UInt32) (n:Int) (w:aB),0<n->n<32->CG 85 #[.int .u32 (nW x),.int .i64 n] w (.int .u32 (nW (rI x n)))):=fun x n w=>MQ x n w;obtain⟨n,R⟩:∃n,w.heap.size=n:=⟨_,rfl⟩;have HN:=aA R;obtain⟨F,I⟩:∃F,(w.alloc (aC (vX zX) 167)).alloc (aC (vX zX) 167)=F:=⟨_,rfl⟩;have HI:Hid (HB F (n+1) (vX (kD (el l) 0)) 167):=by
  show _=_;rw[<-I,W.out];exact aY _ _ _ (by simp;omega)
 have HJ:Hid (HB F n (vX zX) 167):=by
  show _=_;rw[<-I];exact(((Gr.refl _).alloc _).block (by simp;omega)).trans (aY _ _ _ R.symm)
 have HG:Hid (Gr w F):=I▸((Gr.refl w).alloc _).alloc _
 clear hl h;go_in;go_wp2_with fail;try rw[R]
 try rw[I]
 clear R I
 go_loopw [4] (fun i wr=>∃t:Nat,t<=64/\i=.int .i64 t/\Hid (HB wr (n+1) (vX (kD (el l) t)) 167)/\Hid (HB wr n (vX zX) 167)/\Hid (Gr w wr)) (fun i _=>64-(intOf i).toNat)
 .exact⟨0,bW _,rfl,HI,HJ,HG⟩
 .
  obtain⟨t,ht,rfl,s,D,P⟩:=hrel;by_cases B:t<64
  .have a5:(t:Int)<64:=by omega
   have a8:=nn t
   have HS:=aA (ZP (el l) t B);have HP:∀(V:aB) (x:UInt32),Gr wr V->Hid (x=wT (el l) t)->Hid (HB (V.setCell (aD (n+1) t) (.int .u32 (nW x))) (n+1) (vX (kD (el l) (t+1))) 167)/\Hid (HB (V.setCell (aD (n+1) t) (.int .u32 (nW x))) n (vX zX) 167)/\Hid (Gr w (V.setCell (aD (n+1) t) (.int .u32 (nW x))))/\V.frozen? (aD (n+1) t)=false/\n+1<V.heap.size/\(∃u,V.cell? (aD (n+1) t)=some (.int .u32 u)):=by
    intro V x H hx;have j:=(H.block (aI s)).trans s;have a4:=(H.block (aI D)).trans D;refine⟨?_,(cG V (aD (n+1) t) n _ (by show n≠n+1;omega)).trans a4,(P.trans H).setOwn (b:=n+1) (o:=t) (by have:=HN.out;omega) _,ee j t,aI j,⟨_,(bH j t).trans (Ap _ t B)⟩⟩;show _=_;rw[hx.out,fC V (n+1) t _ _ _ j,<-HS.out,<-Ud _ t B];simp[cW]
   have E:=aA HP;clear HP;by_cases r:t<16
   .have a3:(t:Int)<16:=by omega
    obtain⟨b,hb⟩:=ex (4*t);have e0:IntKind.i64.wrap (4*(t:Int))=(b:Int):=by rw[cV];omega
    have e1:IntKind.i64.wrap ((b:Int)+1)=((b+1:Nat):Int):=by rw[cV];omega
    have e2:IntKind.i64.wrap ((b:Int)+2)=((b+2:Nat):Int):=by rw[cV];omega
    have e3:IntKind.i64.wrap ((b:Int)+3)=((b+3:Nat):Int):=by rw[cV];omega
    have M:=HL.out;have h:=T.gr P;have c0:=AA h b (by omega);have c1:=AA h (b+1) (by omega);have O:=AA h (b+2) (by omega);have c3:=AA h (b+3) (by omega);have zg:=h.1;have N:Hid (l[b].toUInt32<<<24|||l[b+1].toUInt32<<<16|||l[b+2].toUInt32<<<8|||l[b+3].toUInt32=wT (el l) t):=by
     show _=_;rw[ab3,lK _ r];unfold el;rw[hb,Ak l b (by omega),Ak l (b+1) (by omega),Ak l (b+2) (by omega),Ak l (b+3) (by omega)]
    generalize l[b]=x0 at*
    generalize l[b+1]=x1 at*
    generalize l[b+2]=S at*
    generalize l[b+3]=x3 at*
    obtain⟨b1,J⟩:=ex (b+1);obtain⟨b2,K⟩:=ex (b+2);obtain⟨b3,L⟩:=ex (b+3);rw[J]at e1 c1;rw[K]at e2 O;rw[L]at e3 c3;have p0:=nn b
    have p1:=nn b1
    have p2:=nn b2
    have p3:=nn b3
    have q0:(b:Int)<64:=by omega
    have q1:(b1:Int)<64:=by omega
    have q2:(b2:Int)<64:=by omega
    have q3:(b3:Int)<64:=by omega
    clear M hb J K L h r;go_wp2_with fail;refine jd 34 (fun u=>∃q:GD,u=gw wr q) (by kernel_rfl) (by kernel_rfl) (nM wr) ?_;simp only[gR,fy,ib,gd];repeat (go_big_quiet_step (fail))
    refine cX ?_;rintro _ ⟨q,rfl⟩;obtain⟨v,z,y,f0,f1,u,f2⟩:=E.out (gw wr q) _ (cK wr q) N;clear c0 c1 O c3 zg;generalize gw wr q=V at*
    go_wp2_with fail;go_roundw
    .exact⟨t+1,by omega,by go_num,v,z,y⟩
    .simp[intOf];omega
   .have a3:¬(t:Int)<16:=by omega
    have N:=aA (TV (el l) t (by omega));obtain⟨k,h2⟩:∃a,t=a+2:=⟨t-2,by omega⟩;obtain⟨d,G⟩:∃a,t=a+15:=⟨t-15,by omega⟩;obtain⟨m,h7⟩:∃a,t=a+7:=⟨t-7,by omega⟩;obtain⟨f,p⟩:∃a,t=a+16:=⟨t-16,by omega⟩;have w2:IntKind.i64.wrap ((t:Int)-2)=(k:Int):=um t k 2 h2 (by omega);have ad:IntKind.i64.wrap ((t:Int)-15)=(d:Int):=um t d 15 G (by omega);have w7:IntKind.i64.wrap ((t:Int)-7)=(m:Int):=um t m 7 h7 (by omega);have ae:IntKind.i64.wrap ((t:Int)-16)=(f:Int):=um t f 16 p (by omega);have i2:(k:Int)<64:=by omega
    have a9:(d:Int)<64:=by omega
    have i7:(m:Int)<64:=by omega
    have aa:(f:Int)<64:=by omega
    have j2:=nn k
    have ab:=nn d
    have j7:=nn m
    have ac:=nn f
    rw[show t-2=k by omega,show t-15=d by omega,show t-7=m by omega,show t-16=f by omega]at N;have HC:Hid (∀V,Gr wr V->V.cell? (aD (n+1) k)=some (.int .u32 (nW (wT (el l) k)))/\V.cell? (aD (n+1) d)=some (.int .u32 (nW (wT (el l) d)))/\V.cell? (aD (n+1) m)=some (.int .u32 (nW (wT (el l) m)))/\V.cell? (aD (n+1) f)=some (.int .u32 (nW (wT (el l) f)))/\n+1<V.heap.size):=by
     intro V H;have j:=(H.block (aI s)).trans s
     have Q:∀a,a<t->V.cell? (aD (n+1) a)=some (.int .u32 (nW (wT (el l) a))):=fun a ha=>by
      rw[bH j a,Ap _ a (by omega),LY _ _ _ _ ha];rfl
     exact⟨Q k (by omega),Q d (by omega),Q m (by omega),Q f (by omega),aI j⟩
    obtain⟨O,X,c7,Y,z1⟩:=HC.out wr (Gr.refl wr);clear h2 G h7 p r;generalize wT (el l) k=S at*
    generalize wT (el l) d=C at*
    generalize wT (el l) m=x7 at*
    generalize wT (el l) f=a6 at*
    go_wp2_with fail
    go_quiet (fail)
    obtain⟨d2,Z,d7,a1,y1⟩:=HC.out (wr.drewN nq) ((Gr.refl wr).drewN nq);have GV:Hid (Gr wr (wr.drewN nq)):=(Gr.refl wr).drewN nq;clear O X c7 Y z1;generalize wr.drewN nq=V at*
    go_wp2_with fail;refine jd 28 (fun u=>∃q:GD,u=gw V q) (by kernel_rfl) (by kernel_rfl) (nM V) ?_;simp only[gR,fy,ib,gd];repeat (go_big_quiet_step ((go_at_call 85;with_reducible exact eE (hr.out _ _ _ (aH rfl) (aH rfl)))))
    refine cX ?_;rintro _ ⟨q,rfl⟩;obtain⟨v,z,y,f0,f1,u,f2⟩:=E.out (gw V q) _ (GV.out.trans (cK V q)) (show Hid ((rI S 17^^^rI S 19^^^S>>>10)+x7+(rI C 7^^^rI C 18^^^C>>>3)+a6=wT (el l) t)from N.out.symm);clear d2 Z d7 a1 y1;generalize gw V q=V2 at*
    go_wp2_with fail;go_roundw
    .exact⟨t+1,by omega,by go_num,v,z,y⟩
    .simp[intOf];omega
  .have a5:¬(t:Int)<64:=by omega
   obtain rfl:t=64:=by omega
   have r0:=aP s 0 64 (by simp[oh]);have q0:rowAt wr (aD (n+1) 0) 64=vX (kD (el l) 64):=(bJ s 0 64 (by simp[oh])).trans (b_ _ _ (oh _));have r1:=aP D 0 64 (by simp[oh]);have r2:=bE D 0 64;have r3:=oh (kD (el l) 64);have r4:=wS (kD (el l) 64);have HE:Hid (HB (wr.setCells n 0 (vX (kD (el l) 64))) n (vX (kD (el l) 64)) 167):=bO D (by rw[oh,oh])
   have U:=aA (P.setsOwn (b:=n) (by have:=HN.out;omega) (vX (kD (el l) 64)) 0);clear s D P;go_wp2_with fail;refine bI (dY rfl _ _ n _ _ _ _ rfl HE underlying167 rfl (by kernel_rfl)) rfl ?_;exact⟨rfl,U⟩
end Go.Proofs.YtjfaogajmoffoaaGreatDoor
