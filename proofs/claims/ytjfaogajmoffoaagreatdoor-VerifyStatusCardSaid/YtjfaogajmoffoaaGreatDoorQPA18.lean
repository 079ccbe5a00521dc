/- Lemmas for VerifyStatus. -/
import Derived.Test.YtjfaogajmoffoaaGreatDoorQPA17
import Derived.Test.YtjfaogajmoffoaaGreatDoorQPA14
set_option maxRecDepth 100000
set_option maxHeartbeats 16000000
set_option linter.all false
namespace Go.Proofs.YtjfaogajmoffoaaGreatDoor
open Go.RowKit Tryz
def Qs(a b:aM)(l:List aM):Lib.join (a::b::l) [10]=a++10::Lib.join (b::l) [10]:=by
 rw[show a::b::l=[a]++(b::l)from rfl,yF 10 [a] (b::l) (by simp) (by simp),nO]
def pT(b c d e f g h i j k a:aJ):bP:=[(⟨#[110,97,109,101,32]⟩:aJ)++b,(⟨#[97,117,116,104,111,114,32]⟩:aJ)++c,(⟨#[100,97,116,101,32]⟩:aJ)++d,(⟨#[103,114,111,117,112,115,32]⟩:aJ)++e,(⟨#[115,117,98,106,101,99,116,32]⟩:aJ)++f,(⟨#[114,101,102,101,114,101,110,99,101,115,32]⟩:aJ)++g,(⟨#[115,117,112,101,114,115,101,100,101,115,32]⟩:aJ)++h,(⟨#[99,111,110,116,114,111,108,32]⟩:aJ)++i,(⟨#[100,105,115,116,114,105,98,117,116,105,111,110,32]⟩:aJ)++j,(⟨#[107,101,121,32]⟩:aJ)++k,(⟨#[108,101,97,102,32]⟩:aJ)++a,⟨#[]⟩]
def adM(k:bU)(a:bP)(rs:List Id):m8 (pT k.name (bs (lI k.author)) (gu k.date) (mA a) k.subject (ln rs) (nl k.sup) k.control k.dist (lT k) (gu k.leaf)) ⟨#[10]⟩++(⟨#[10]⟩:aJ)++k.body=bs (dR k a rs):=by
 unfold m8 pT dR oX eM;show bs (Lib.join (List.map bl _) [10])++bs [10]++bs (bl k.body)=_;rw[iY,iY];congr 1;simp only[gt,nI,Qs,nO,List.zip_cons_cons,List.zip_nil_right,n_,List.flatMap_nil,mq,xU];simp[bl,fl]
def Ya(k:bU)(s:bP)(rs:List Id)(w:aB)(i:iO k s)(hC:fF w k s rs)(h0:fc k s rs=0):
  Calls prog 49 #[aE (aX k)] w (RG w (.string (bs (dR k s rs)))):=by
 obtain⟨n,hn⟩:=ex w.heap.size;obtain⟨c1,c2,c3,c4,c5,c6,c7⟩:=zn h0;have ah:=hC.one;have b3:=dO k;have a7:rs.length<=1000:=by
  unfold gq at c2;by_cases ai:20<rs.length
  .rw[aG ai]at c2;cases c2
  .omega
 have hd:0<=k.date/\k.date<=105190559:=by
  unfold mG at c5;rw[xK,ou,ou]at c5;omega
 have a6:0<=k.number/\k.number<=1000:=by
  unfold o8 at c6;rw[xK,ou,ou]at c6;omega
 have o:0<=k.leaf/\k.leaf<=256:=by
  unfold oL ry at c4;rw[aG c3,xK,ou,ou]at c4;have b1:1<=k.height/\k.height<=8:=by
   unfold cH at c3;by_cases q:k.height<1\/8<k.height
   .rw[aG q]at c3;cases c3
   .omega
  have hp:(2:Int)^k.height.toNat<=256:=by
   have:k.height.toNat=1\/k.height.toNat=2\/k.height.toNat=3\/k.height.toNat=4\/k.height.toNat=5\/k.height.toNat=6\/k.height.toNat=7\/k.height.toNat=8:=by omega
   rcases this with e|e|e|e|e|e|e|e<;>rw[e]<;>decide
  omega
 obtain⟨T,hU,HG,H0⟩:=gO hn (aC (aX k) 28)
 obtain⟨⟨-,ga,gc,Q,-⟩,⟨ra,rc,p,-⟩⟩:=id hC;rw[cL]at p;have HC:Hid (∀V,Gr T V->fF V k s rs):=fun V B=>hC.gr (HG.trans B);have T1:Hid (∀V,Gr T V->Calls prog 76 #[k.refs] V fun e w'=>∃v',e=.returned v'/\nX w' v' rs/\Gr V w'):=fun V B=>Ng rs k.refs V (HC V B).r a7
 have T2:Hid (∀v V,nX V v rs->CG 86 #[v] V (.tuple #[.string (ln rs),.int .i64 0])):=fun v V hv=>by
  have:=Uq rs v V hv a7;rw[c2]at this;exact this
 have T3:Hid (∀V,CG 87 #[aE (bC k.author)] V (.string (bs (lI k.author)))):=fun V=>Pj k.author V;have T4:Hid (∀V,CG 88 #[.int .i64 k.date] V (.string (gu k.date))):=fun V=>CN k.date hd.1 (by omega) V
 have T5:Hid (∀V,Gr T V->CG 89 #[k.groups,.string ⟨#[44]⟩] V (.string (mA s))):=fun V B=>by
  have:=I4 44 s k.groups V (HC V B).g i.sm.g i.sm.z;unfold mA;rw[aG c1];exact this
 have T6:Hid (∀V,CG 90 #[aE (bC k.sup)] V (.string (nl k.sup))):=fun V=>XU k.sup V;have T7:Hid (∀V,CG 91 #[aE (aX k)] V (.string (lT k))):=fun V=>abY k V ah a6.1 a6.2 c3;have T8:Hid (∀V,CG 88 #[.int .i64 k.leaf] V (.string (gu k.leaf))):=fun V=>CN k.leaf o.1 (by omega) V;have c:=aA (adM k s rs);have aj:k.body.size<=2000:=i.b;have ac:(k.name).size<=5000:=by have:=i.t;omega
 have aw:(bs (lI k.author)).size<=5000:=by rw[un,Eo];decide
 have ad:(gu k.date).size<=5000:=by have:=rV k.date i.d;omega
 have ax:(mA s).size<=5000:=by have:=D0 s 3000 i.z;have:=i.g;omega
 have ae:(k.subject).size<=5000:=by have:=i.t;omega
 have ay:(ln rs).size<=5000:=by have:=DH rs c2;omega
 have az:(nl k.sup).size<=5000:=by have:=CS k.sup;omega
 have af:(k.control).size<=5000:=by have:=i.t;omega
 have ag:(k.dist).size<=5000:=by have:=i.t;omega
 have a0:(lT k).size<=5000:=by have:=Aw k i.n;omega
 have S:(gu k.leaf).size<=5000:=by have:=rV k.leaf i.l;omega
 have HS:Hid (∀V,Gr T V->nS V n k/\V.rangeAt n 0 (aX k)):=fun V B=>by
  have hb:=(B.block (aI H0)).trans H0;have f:=sF hb;exact⟨f,qh f.w0 f.w1⟩
 rw[Q]at T5;rw[p]at T1;obtain⟨f1,f2,f3,f4,f5,f6,f7,f8,f9,N,O,U,X,Y,P,Z,a1,a2,a3⟩:=(HS.out T (Gr.refl _)).1;rw[p]at f7;replace hU:=aA hU;go_in;go_wp2_with fail;try simp only[hn]
 rw[hU.out];refine(T1 T (Gr.refl _)).mono ?_;rintro x1 w1 ⟨v',rfl,aa,g1⟩;go_wp2_with fail;refine bA (T2 v' w1 aa) fun M g2=>?_;have G2:Hid (Gr T M):=Gr.trans g1 g2;clear g1 g2 aa;go_wp2_with fail;obtain⟨f1,f2,f3,f4,f5,f6,f7,f8,f9,N,O,U,X,Y,P,Z,a1,a2,a3⟩:=(HS.out M G2.out).1;rw[Q]at f5;rw[p]at f7;have HB:Hid (∀V,Gr M V->V.cell? (aD n 74)=some (.string k.body)):=fun V B=>(HS V (G2.trans B)).1.body;have d3:=aO k.author;have d4:=cZ k.author;have d1:=cC k.sup;have d2:=gE k.sup;obtain⟨D,h0⟩:∃x,k.name=x:=⟨_,rfl⟩;obtain⟨G,h4⟩:∃x,k.subject=x:=⟨_,rfl⟩;obtain⟨J,h7⟩:∃x,k.control=x:=⟨_,rfl⟩;obtain⟨K,h8⟩:∃x,k.dist=x:=⟨_,rfl⟩;obtain⟨dt,a5⟩:∃x,k.date=x:=⟨_,rfl⟩;obtain⟨lf,o⟩:∃x,k.leaf=x:=⟨_,rfl⟩;obtain⟨bd,a4⟩:∃x,k.body=x:=⟨_,rfl⟩;rw[h0]at ac f1;rw[a5]at ad T4 f4;rw[h4]at ae f6;rw[h7]at af N;rw[h8]at ag O;rw[o]at S T8 P;rw[a4]at HB aj;replace c:=c.out;rw[h0,a5,h4,h7,h8,o,a4]at c;replace c:=aA c;clear h0 h4 h7 h8 a5 o a4 U X Y Z;generalize bs (lI k.author)=E at*
 generalize gu dt=F at*
 generalize mA s=y at*
 generalize ln rs=H at*
 generalize nl k.sup=I at*
 generalize lT k=L at*
 generalize gu lf=a at*
 have n0:¬9223372036854775807<5+D.size:=by omega
 have n1:¬9223372036854775807<7+E.size:=by omega
 have n2:¬9223372036854775807<5+F.size:=by omega
 have n3:¬9223372036854775807<7+y.size:=by omega
 have n4:¬9223372036854775807<8+G.size:=by omega
 have n5:¬9223372036854775807<11+H.size:=by omega
 have n6:¬9223372036854775807<11+I.size:=by omega
 have n7:¬9223372036854775807<8+J.size:=by omega
 have n8:¬9223372036854775807<13+K.size:=by omega
 have n9:¬9223372036854775807<4+L.size:=by omega
 have b4:¬9223372036854775807<5+a.size:=by omega
 replace T5:Hid (∀V,Gr M V->CG 89 #[.slice ga s.length gc,.string ⟨#[44]⟩] V (.string y)):=fun V B=>T5 V (G2.trans B);clear HC HS T1 T2 a7;replace Q:=aA Q;replace p:=aA p;have a9:Hid (((pT D E F y G H I J K L a).map (·.size)).sum<=60000):=by
  show _<=_;unfold pT;have ak:(⟨#[110,97,109,101,32]⟩:aJ).size=5:=rfl;have al:(⟨#[97,117,116,104,111,114,32]⟩:aJ).size=7:=rfl;have am:(⟨#[100,97,116,101,32]⟩:aJ).size=5:=rfl;have an:(⟨#[103,114,111,117,112,115,32]⟩:aJ).size=7:=rfl;have ao:(⟨#[115,117,98,106,101,99,116,32]⟩:aJ).size=8:=rfl;have ap:(⟨#[114,101,102,101,114,101,110,99,101,115,32]⟩:aJ).size=11:=rfl;have aq:(⟨#[115,117,112,101,114,115,101,100,101,115,32]⟩:aJ).size=11:=rfl;have ar:(⟨#[99,111,110,116,114,111,108,32]⟩:aJ).size=8:=rfl;have au:(⟨#[100,105,115,116,114,105,98,117,116,105,111,110,32]⟩:aJ).size=13:=rfl;have av:(⟨#[107,101,121,32]⟩:aJ).size=4:=rfl;have ab:(⟨#[108,101,97,102,32]⟩:aJ).size=5:=rfl;have lz:(⟨#[]⟩:aJ).size=0:=rfl;simp only[gt,nI,yq,List.sum_nil,ni,ak,al,am,an,ao,ap,aq,ar,au,av,ab,lz];omega
 refine jd 37 (fun u=>∃q:GD,u=gw M q) (by kernel_rfl) (by kernel_rfl) (nM M) ?_;simp only[gR,fy,ib,gd];repeat (go_big_quiet_step (first
   |(go_at_call 87;with_reducible exact eE (T3.out _))
   |(go_at_call 89;with_reducible exact eE (T5.out _ (cK M _)))
   |(go_at_call 90;with_reducible exact eE (T6.out _))
   |(go_at_call 91;with_reducible exact eE (T7.out _))
   |(go_at_call 88;first|with_reducible exact eE (T4.out _)|with_reducible exact eE (T8.out _))))
 refine cX ?_;rintro _ ⟨q,rfl⟩;have GV:=aA (cK M q);generalize gw M q=V at*
 go_wp2_with fail;obtain⟨R,C⟩:=ex (V.alloc (.cells #[.string ((⟨#[110,97,109,101,32]⟩:aJ)++D),.string ((⟨#[97,117,116,104,111,114,32]⟩:aJ)++E),.string ((⟨#[100,97,116,101,32]⟩:aJ)++F),.string ((⟨#[103,114,111,117,112,115,32]⟩:aJ)++y),.string ((⟨#[115,117,98,106,101,99,116,32]⟩:aJ)++G),.string ((⟨#[114,101,102,101,114,101,110,99,101,115,32]⟩:aJ)++H),.string ((⟨#[115,117,112,101,114,115,101,100,101,115,32]⟩:aJ)++I),.string ((⟨#[99,111,110,116,114,111,108,32]⟩:aJ)++J),.string ((⟨#[100,105,115,116,114,105,98,117,116,105,111,110,32]⟩:aJ)++K),.string ((⟨#[107,101,121,32]⟩:aJ)++L),.string ((⟨#[108,101,97,102,32]⟩:aJ)++a),.string ⟨#[]⟩] 9));rw[C];obtain⟨m,hm⟩:=ex V.heap.size;have HM:Hid (R.heap[m]? =some (.cells #[.string ((⟨#[110,97,109,101,32]⟩:aJ)++D),.string ((⟨#[97,117,116,104,111,114,32]⟩:aJ)++E),.string ((⟨#[100,97,116,101,32]⟩:aJ)++F),.string ((⟨#[103,114,111,117,112,115,32]⟩:aJ)++y),.string ((⟨#[115,117,98,106,101,99,116,32]⟩:aJ)++G),.string ((⟨#[114,101,102,101,114,101,110,99,101,115,32]⟩:aJ)++H),.string ((⟨#[115,117,112,101,114,115,101,100,101,115,32]⟩:aJ)++I),.string ((⟨#[99,111,110,116,114,111,108,32]⟩:aJ)++J),.string ((⟨#[100,105,115,116,114,105,98,117,116,105,111,110,32]⟩:aJ)++K),.string ((⟨#[107,101,121,32]⟩:aJ)++L),.string ((⟨#[108,101,97,102,32]⟩:aJ)++a),.string ⟨#[]⟩] 9)):=C▸aY _ _ _ hm.symm
 have a8:Hid (Gr M R):=C▸GV.out.alloc _
 try rw[hm]
 have HJ:Hid (∀W,Gr R W->CG 89 #[aR m 0 12 12,.string ⟨#[10]⟩] W (.string (m8 (pT D E F y G H I J K L a) ⟨#[10]⟩))):=fun W hW=>by
  have hb:=(hW.block (aI HM)).trans HM;refine I4 10 (pT D E F y G H I J K L a) _ W ⟨⟨some (aD m 0),12,rfl,fun j hj=>⟨m,0,rfl,aI hb,?_⟩⟩,_,_,rfl,aU _⟩ (by show 12<=1000000;decide) (by have:=a9.out;omega);rw[fB];refine(bH (cs:=(pT D E F y G H I J K L a).map Value.string) hb j).trans ?_;rw[fo,cO hj];rfl
 have b2:(m8 (pT D E F y G H I J K L a) ⟨#[10]⟩).size<=70000:=by
  unfold m8;show Array.size _<=_;rw[bQ];have h:=Ca (pT D E F y G H I J K L a) ⟨#[10]⟩ 60000 a9 rfl;have h2:(pT D E F y G H I J K L a).length=12:=rfl;exact eu h (by omega)
 generalize m8 (pT D E F y G H I J K L a) ⟨#[10]⟩=js at*
 have q1:¬9223372036854775807<js.size+1:=by omega
 have q2:¬9223372036854775807<js.size+1+bd.size:=by omega
 have fb:=HB R a8;have fz:n<R.heap.size:=ka _ _ fb;replace C:=aA C;replace hm:=aA hm;refine ej (by kernel_rfl) (by kernel_rfl) ?_;repeat (go_big_quiet_step ((go_at_call 89;with_reducible exact eE (HJ.out _ (cK R _)))))
 refine cX ?_;rintro _ ⟨q,rfl⟩;have GE:=aA (a8.trans (cK R q));generalize gw R q=V2 at*
 go_wp2_with fail;go_ret;exact⟨by rw[<-c.out];rfl,HG.trans (G2.trans GE)⟩
def We(l:aM):bC (pX l)=bC (fX l):=by
 rw[Eb,<-uW,Bn]
def CX(k:bU)(a:bP)(rs:List Id)(w:aB)(r:iO k a)(H:fF w k a rs)(G:fc k a rs=0):
  Calls prog 19 #[aE (aX k)] w (RG w (aE (bC (fX (dR k a rs))))):=by
 obtain⟨n,x⟩:=ex w.heap.size;have L:=aA x;have O:=Jr k a rs r (zn G).2.1;obtain⟨q,s,B,J,c⟩:=gT x (aC (aX k) 28) (aC (bC bM) 26)
 have h:Hid (CG 49 #[aE (aX k)] q (.string (bs (dR k a rs)))):=
  Ya k a rs q r (H.gr B) G
 have Q:=dO k;have f:=sF J;obtain⟨t,d⟩:=ex (bs (dR k a rs));have j:bl t=dR k a rs:=by rw[<-d];rfl
 have z:t.size=(dR k a rs).length:=by rw[<-bN,j]
 rw[d]at h
 have M:Hid (∀W v,gC W v (dR k a rs)->CG 48 #[v] W (aE (bC (fX (dR k a rs))))):=fun W v P=>by
  rw[<-We];exact A6 v _ W (by omega) P
 generalize fX (dR k a rs)=y at*
 have S:=cC y;have T:=gE y;replace s:=aA s;go_in;go_wp2_with fail;try simp only[x]
 try change Calls _ _ _ ((w.alloc (aC (aX k) 28)).alloc (aC (bC bM) 26)) _
 rw[s.out];refine bA h fun I D=>?_;have g:=aA D;clear D;obtain⟨C,W,N,F,i,u⟩:=EA t _ z I;have m:=aA F;have o:Hid (gC W (aR (I.heap.size) 0 (dR k a rs).length C) (dR k a rs)):=⟨_,C,rfl,u,.inr ⟨_,0,rfl,j▸i⟩⟩;clear F i;go_wp2_with (go_at_call 48;refine bA (M W _ o) fun R E=>?_;have l:=aA ((E.block (aI ((m.block (aI ((g.block (aI c)).trans c))).trans ((g.block (aI c)).trans c)))).trans ((m.block (aI ((g.block (aI c)).trans c))).trans ((g.block (aI c)).trans c)));have V:=aP l 0 32 (by simp[cC]);have X:=bE l 0 32;have Y:=aI l);have K:Hid (HB (R.setCells (n+1) 0 (bC y)) (n+1) (bC y) 26):=bO l (by simp[cC])
 have p:=aA ((B.trans (g.trans (m.trans E))).setsOwn (b:=n+1) (by have:=L.out;omega) (bC y) 0);refine bI (dY rfl _ _ (n+1) _ _ _ _ rfl K underlying26 rfl (DO _)) rfl ?_;exact⟨rfl,p⟩
def S_(l:aM)(j:Nat)(h:j<16):(h' l)[j]? =some ((fX l)[j]'(by omega)):=by
 have a:fX l=pX l:=by
  apply Sl.1;rw[Bn];rfl
 rw[a];exact BH l j h
def At:bC aQ=uL eO:=by kernel_rfl
def Oq(l:aM)(w:aB):Calls prog 44 #[aE (bC (fX l))] w (RG w (aE (bC (cF l)))):=by
 have g:Hid (bC (cF l)=uL (h' l)):=xE l;rw[g.out];obtain⟨n,p⟩:=ex w.heap.size;have B:=aA p;have s:=aA (S_ l);have c:Hid ((h' l).length=16):=rF l;have t:=aA (Ds (h' l));generalize h' l=D at*
 generalize fX l=S at*
 obtain⟨C,a,u,v,-,-⟩:=jP p (aC (bC S) 26) (aC (bC aQ) 22) (aC (bC aQ) 22)
 have z:Hid (HB C (n+1) (uL eO) 22):=by
  show _=_;rw[<-a,At];exact(((Gr.refl _).alloc _).block (by simp;omega)).trans (aY _ _ _ (by simp;omega))
 have x:Hid (HB C (n+1+1) (uL (zq D 0)) 22):=by
  show _=_;rw[<-a,show zq D 0=eO from rfl,At];exact aY _ _ _ (by simp;omega)
 go_in;go_wp2_with fail;try simp only[p]
 try rw[a]
 replace a:=aA a;replace p:=aA p
 go_loopw [4] (fun i wr=>∃k:Nat,k<=16/\i=.int .i64 k/\Hid (HB wr (n+1) (uL eO) 22)/\Hid (HB wr n (bC S) 26)/\Hid (HB wr (n+1+1) (uL (zq D k)) 22)/\Hid (Gr w wr)) (fun i _=>16-(intOf i).toNat)
 .exact⟨0,bW _,rfl,z,v,x,u⟩
 .
  obtain⟨k,K,rfl,f,q,d,r⟩:=hrel;by_cases m:k<16
  .have G:(k:Int)<16:=by omega
   have M:=nn k
   have N:(k:Int)<32:=by omega
   have h:=aA (t k c m _ (s k m));have H:=wF q k (by omega);have I:=ee d k;obtain⟨E,J⟩:∃E:UInt8,wr.cell? ⟨n+1+1,k,none⟩=some (.int .u8 (E.toNat:Int)):=⟨_,(bH d.out k).trans (xL _ k (by rw[Dk _ _ c.out (by omega)];omega))⟩;generalize S[k]'(by omega)=y at*
   have HW:Hid (HB (wr.setCell (aD (n+1+1) k) (cU y)) (n+1+1) (uL (zq D (k+1))) 22):=by
    show _=_;rw[fC wr (n+1+1) k _ _ _ d.out,<-h.out,<-xZ];simp
   have HX:=aA ((cG wr (aD (n+1+1) k) n (cU y) (by show n≠n+1+1;omega)).trans q);have HY:=aA ((cG wr (aD (n+1+1) k) (n+1) (cU y) (by show n+1≠n+1+1;omega)).trans f);have HG1:=aA (r.setOwn (b:=n+1+1) (o:=k) (by have:=B.out;omega) (cU y));unfold cU at HW HX HY HG1;go_wp2_with fail;go_roundw
   .exact⟨k+1,by omega,by go_num,HY,HX,HW,HG1⟩
   .simp[intOf];omega
  .have G:¬(k:Int)<16:=by omega
   obtain rfl:k=16:=by omega
   have j:(uL D).length=16:=by rw[dJ];exact c
   rw[Cg D c.out]at d;have O:=aP d 0 16 (by simp[j]);have L:rowAt wr (aD (n+1+1) 0) 16=uL D:=(bJ d 0 16 (by simp[j])).trans (b_ _ _ j);have P:=aP f 0 16 (by simp[dJ,jf]);have Q:=bE f 0 16;have R:=mY D;have F:Hid (HB (wr.setCells (n+1) 0 (uL D)) (n+1) (uL D) 22):=bO f (by rw[j,dJ,jf])
   have HG1:=aA (r.setsOwn (b:=n+1) (by have:=B.out;omega) (uL D) 0);go_wp2_with fail;refine bI (dY rfl _ _ (n+1) _ _ _ _ rfl F underlying22 rfl (by rw[bQ,j];kernel_rfl)) rfl ?_;exact⟨rfl,HG1⟩
def WQ(v:Value)(l:aM)(w:aB)(hl:l.length<=800000)(P:gC w v l):Calls prog 137 #[v] w (RG w (aE (bC (cF l)))):=by
 have k:Hid (bC (cF l)=uL (h' l)):=xE l;rw[k.out];obtain⟨n,L⟩:=ex w.heap.size;have M:=aA L;obtain⟨G,s,C,-⟩:=gO L (aC (bC aQ) 22);have r:=aA (show HB G n (uL eO) 22 by rw[<-s,At];exact aY _ _ _ L.symm)
 have HS:=aA (A6 v l G hl (P.gr C));have f:Hid ((h' l).length=16):=rF l
 have F:Hid (∀W b t,HB W b (bC (pX l)) t->cS W b 0 (h' l)):=fun W b t h=>by
  have O:=cS.vec (x:=pX l) h;refine⟨O.1,fun j x K=>O.2 j x ?_⟩;have p:j<16:=by
   have:=(nG.1 K).1;rw[rF]at this;exact this
  rw[BH l j p]at K;rw[qz,qB (by omega)];exact K
 generalize h' l=D at*
 generalize pX l=S at*
 have s1:=cC S;have s2:=gE S;go_in;go_wp2_with fail;try rw[s]
 replace s:=aA s;refine bA HS fun w1 J=>?_;obtain⟨m,q⟩:=ex w1.heap.size;obtain⟨a,c,-,U,-⟩:=gT q (aC (bC S) 25) (aC (bC aQ) 22);have y:Hid (Gr G a):=c▸(J.alloc _).alloc _
 have V:Hid (HB a (m+1) (uL eO) 22):=by
  show _=_;rw[<-c,At];exact aY _ _ _ (by simp;omega)
 have i:Hid (n<m):=q▸dQ (aI r) J.size
 have X:=aA ((y.block (aI r)).trans r);have Q:=aA (C.trans y);go_wp2_with fail;try simp only[q]
 try rw[c]
 replace c:=aA c;replace q:=aA q;have z:Hid (cS a.drew m 0 D):=(F a m _ U).gr (Gr.refl a).drew;have u:(uL eO).length=16:=by rw[dJ];rfl
 have H:Hid (HB a.drew (m+1) (uL eO) 22):=V
 have X3:Hid (HB a.drew n (uL eO) 22):=X
 have Z:Hid (hasRow a.drew (aD (m+1) 0) D.length=true):=aP H 0 _ (by simp[u,f.out]);have B:Hid (gz a.drew (aD (m+1) 0) D.length=true):=bE H 0 _;have g:(uL D).length=16:=by rw[dJ];exact f
 have R:Hid (Gr w a.drew):=Q.drew;obtain⟨o,d⟩:=ex (a.drew.setCells (m+1) 0 (uL D));have N:Hid (HB o (m+1) (uL D) 22):=by
  show _=_;rw[<-d];exact bO H (by rw[g,u])
 have I:Hid (HB o n (uL eO) 22):=by
  show _=_;rw[<-d,cD (by have:=i.out;omega)];exact X3
 have T:Hid (Gr w o):=by
  show Gr _ _;rw[<-d];exact R.setsOwn (b:=m+1) (by have:=M.out;have:=i.out;omega) (uL D) 0
 go_region_law (refine adt rfl 9 rfl _ _ rfl (m+1) 0 16 16 m 0 16 32 rfl rfl D (by rw[f.out];rfl) z Z B ?_);all_goals
  try rw[d]
  have r0:=aP N 0 16 (by simp[g]);have q0:rowAt o (aD (m+1) 0) 16=uL D:=(bJ N 0 16 (by simp[g])).trans (b_ _ _ g);have r1:=aP I 0 16 (by simp[u]);have r2:=bE I 0 16;have r4:=mY D;have Y:Hid (HB (o.setCells n 0 (uL D)) n (uL D) 22):=bO I (by rw[g,u])
  have E:=aA (T.setsOwn (b:=n) (by have:=M.out;omega) (uL D) 0);go_wp2_with fail;refine bI (dY rfl _ _ n _ _ _ _ rfl Y underlying22 rfl (by rw[bQ,g];kernel_rfl)) rfl ?_;exact⟨rfl,E⟩
def ab_(h:Int)(r:cE)(w:aB)(G:1<=h)(H:h<=8):Calls prog 81 #[.int .i64 h,aE (bC r)] w (RG w (aE (bC (cF (gv h r))))):=by
 obtain⟨n,p⟩:=ex w.heap.size;have C:=aA p;obtain⟨D,m,B,x,u⟩:=gT p (aC (bC r) 22) (aC (bC aQ) 22)
 have j:=aA (MN h r D G H);have l:Hid (∀W v,gC W v (gv h r)->CG 137 #[v] W (aE (bC (cF (gv h r))))):=fun W v d=>WQ v _ W (by rw[sd];decide) d;have hbl:(gv h r).length=17:=sd h r
 have i:Hid (∀W b v,aZ W b v (gv h r)->gC W v (gv h r)):=fun W b v d=>by
  obtain⟨g,c,s,I,o,_,a⟩:=d.cells (by intro e;rw[e]at hbl;cases hbl);exact⟨_,c,s,I,.inr ⟨g,0,rfl,⟨o,a⟩⟩⟩
 obtain⟨J,K,L⟩:=dL 16 (aO r) x.out;have N:=aO r;generalize cF (gv h r)=y at*
 have O:=aO y;have P:=cZ y;replace m:=aA m;go_in;go_wp2_with fail;try simp only[p]
 rw[m.out];refine j.mono ?_;rintro e S ⟨v,rfl,d,E⟩;have q:=aA (i _ _ _ d);go_wp2_with fail;refine bA (l _ _ q) fun M F=>?_;have t:=aA (E.trans F);have f:=aA ((t.block (aI u)).trans u);have Q:=aP f 0 16 (by simp[aO]);have R:=bE f 0 16;go_wp2_with fail;have z:Hid (HB (M.setCells (n+1) 0 (bC y)) (n+1) (bC y) 22):=bO f (by simp[aO])
 have k:=aA ((B.trans t).setsOwn (b:=n+1) (by have:=C.out;omega) (bC y) 0);refine bI (dY rfl _ _ (n+1) _ _ _ _ rfl z underlying22 rfl (by rw[bQ,aO];kernel_rfl)) rfl ?_;exact⟨rfl,k⟩
@[go_sem] def ag1:dZ prog 34 =true:=by kernel_rfl
@[go_sem] def I5:prog.cellsOf 34 =637:=by kernel_rfl
def Cz(a b:bF)(o n:Nat)(h:o+n<=a.length):dD (a++b) o n=dD a o n:=by
 unfold dD;rw[sH (by omega),us (by rw[eh];omega)]
def Iz(c:bU):dD (aX c) 57 16=bC c.root:=by
 have h:=CY c;have a:dD (aX c) 57 16=(dD (aX c) 56 17).drop 1:=by
  unfold dD;rw[BW,nD]
 rw[a,h];rfl
structure SF(W:aB)(n:Nat)(k:bU)(S:bF)(lf:Int):Prop where
 h0:hasRow W (aD n 0) 75=true
 r0:rowAt W (aD n 0) 75=aX k
 h1:hasRow W (aD n 75) 562=true
 r1:rowAt W (aD n 75) 562=S
 sl:W.cell? (aD n 75)=some (.int .i64 lf)
 cl:W.cell? (aD n 73)=some (.int .i64 k.leaf)
 ht:W.cell? (aD n 56)=some (.int .i64 k.height)
 nb:W.cell? (aD n 55)=some (.int .i64 k.number)
 ct:W.cell? (aD n 53)=some (.string k.control)
 q0:hasRow W (aD n 57) 16=true
 q1:rowAt W (aD n 57) 16=bC k.root
 a0:hasRow W (aD n 1) 16=true
 a1:rowAt W (aD n 1) 16=bC k.author
 w0:hasRow W (aD n 0) 637=true
 w1:rowAt W (aD n 0) 637=dE k S
 z:n<W.heap.size
def uH{W:aB}{n:Nat}{k:bU}{S:bF}{e:Int}{t:TypeId}(d:S.length=562)(f:S[0]? =some (.int .i64 e)) (h:HB W n (dE k S) t):SF W n k S e:=by
 have g:(dE k S).length=637:=by unfold dE;rw[bV,dO,d]
 have a:∀j v,(aX k)[j]? =some v->W.cell? (aD n j)=some v:=fun j v c=>by
  rw[bH h j];unfold dE;have b:=(nG.1 c).1;rw[oS b];exact c
 refine⟨aP h 0 75 (by omega),(bJ h 0 75 (by omega)).trans (En k S),aP h 75 562 (by omega),(bJ h 75 562 (by omega)).trans (Gg k S d),?_,a 73 _ (Ce k),a 56 _ (Ay k),a 55 _ (z' k),a 53 _ (xu k),aP h 57 16 (by omega),(bJ h 57 16 (by omega)).trans ((Cz _ _ 57 16 (by rw[dO];decide)).trans (Iz k)),aP h 1 16 (by omega),(bJ h 1 16 (by omega)).trans ((Cz _ _ 1 16 (by rw[dO];decide)).trans (wU k)),aP h 0 637 (by omega),(bJ h 0 637 (by omega)).trans (b_ _ _ g),aI h⟩;rw[bH h 75];unfold dE;rw[rR (by rw[dO];decide),dO];exact f
def Ic(k:bU)(a:bP)(rs:List Id)(g:Sg)(x:Value)(w:aB)(M:iO k a)(L:fF w k a rs)(Q:rs.length<=1000)(E:dM w x g.path):
  Calls prog 17 #[aE (dE k (aW g.leaf g.chains x))] w (RG w (.int .i64 (fK k a rs g))):=by
 obtain⟨n,hn⟩:=ex w.heap.size;obtain⟨ap,cp,P⟩:=E.shape;obtain⟨S,s⟩:=ex (aW g.leaf g.chains x);have v:S.length=562:=by rw[<-s];exact d_ _ _ _
 have j:S[0]? =some (.int .i64 g.leaf):=by rw[<-s];exact wb _ _ _
 obtain⟨p,O,f,Z⟩:=gO hn (aC (dE k S) 34)
 have HF:Hid (∀V,Gr p V->SF V n k S g.leaf):=fun V c=>uH v j ((c.block (aI Z)).trans Z);have T1:Hid (∀V,Gr p V->CG 41 #[aE (aX k)] V (.int .i64 (fc k a rs))):=fun V c=>Sb k a rs V M.sm (L.gr (f.trans c)) Q
 have T2:Hid (∀V,Gr p V->CG 42 #[aE S] V (.int .i64 (fd g))):=fun V c=>by
  rw[<-s];exact Ib g x V (E.gr (f.trans c))
 have t:Hid (fc k a rs=0->∀V,Gr p V->CG 19 #[aE (aX k)] V (aE (bC (fX (dR k a rs))))):=fun h V c=>CX k a rs V M (L.gr (f.trans c)) h;have T4:Hid (∀V,CG 44 #[aE (bC (fX (dR k a rs)))] V (aE (bC (cF (dR k a rs))))):=fun V=>Oq (dR k a rs) V
 have G:Hid (∀V,Gr p V->CG 43 #[.int .i64 k.height,aE (bC k.root),aE (bC (cF (dR k a rs))),aE S] V (.int .i64 (kj k.height k.root (cF (dR k a rs)) g))):=fun V c=>by
  rw[<-s];exact adT k.height k.root (cF (dR k a rs)) g x V (E.gr (f.trans c))
 have i:Hid (fK k a rs g=if fc k a rs≠0 then fc k a rs else if fd g≠0 then fd g else if g.leaf≠k.leaf then 17 else kj k.height k.root (cF (dR k a rs)) g):=rfl;rw[s];generalize fK k a rs g=R at*
 generalize fX (dR k a rs)=y at*
 generalize cF (dR k a rs)=hf at*
 generalize kj k.height k.root hf g=ve at*
 generalize fc k a rs=D at*
 generalize fd g=F at*
 generalize g.leaf=r at*
 have N:SF (w.alloc (aC (dE k S) 34)) n k S r:=uH v j (aY _ _ n hn.symm);obtain⟨u,B,-,-,-,-,-,-,-,-,-,-,-,-,-,z⟩:=N;replace O:=aA O;go_in;go_wp2_with fail;rw[O.out];refine bA (T1 p (Gr.refl _)) fun w1 g1=>?_;have C:=aA g1;clear u B z g1;by_cases d:D=0
 case neg=>
  have l:R=D:=by rw[i.out,aG d]
  have I:(D==0)=false:=dI.2 d;have J:(D != 0)=true:=by simp[d]
  replace d:=aA d;subst l;go_wp2_with fail;go_ret;exact⟨rfl,f.trans C⟩
 subst d;replace i:=aA (i.trans (aF (fun h=>h rfl)));replace t:=aA (t rfl);obtain⟨u,B,K,X,Y,H,T,-,-,U,W,-,-,-,-,z⟩:=HF.out w1 C.out;go_wp2_with fail;refine bA (T2 w1 C) fun m g2=>?_;have o:=aA (C.trans g2);clear u B K X Y H T U W z g2;by_cases d:F=0
 case neg=>
  have l:R=F:=by rw[i.out,aG d]
  have I:(F==0)=false:=dI.2 d;have J:(F != 0)=true:=by simp[d]
  replace d:=aA d;subst l;go_wp2_with fail;go_ret;exact⟨rfl,f.trans o⟩
 subst d;replace i:=aA (i.trans (aF (fun h=>h rfl)));obtain⟨u,B,K,X,Y,H,T,-,-,U,W,-,-,-,-,z⟩:=HF.out m o.out;by_cases b:r=k.leaf
 case neg=>
  have l:R=17:=by rw[i.out,aG b]
  have I:(r==k.leaf)=false:=dI.2 b;have J:(r != k.leaf)=true:=by simp[b]
  replace b:=aA b;subst l;go_wp2_with fail;go_ret;exact⟨rfl,f.trans o⟩
 have l:R=ve:=by rw[i.out,aF (fun h=>h b)]
 have I:(r==k.leaf)=true:=by simp[b]
 have J:(r != k.leaf)=false:=by simp[b]
 replace b:=aA b;subst l;replace G:Hid (∀V,Gr m V->_):=fun V c=>G V (o.trans c);replace t:Hid (∀V,Gr m V->_):=fun V c=>t V (o.trans c);go_wp2_with fail;refine ej (by kernel_rfl) (by kernel_rfl) ?_;repeat (go_big_quiet_step (first
   |(go_at_call 19;with_reducible exact eE (t.out _ (cK m _)))
   |(go_at_call 44;with_reducible exact eE (T4.out _))
   |(go_at_call 43;with_reducible exact eE (G.out _ (cK m _)))))
 refine cX ?_;rintro _ ⟨q,rfl⟩;have G3:=aA (o.trans (cK m q));generalize gw m q=V at*
 go_wp2_with fail;go_ret;exact⟨rfl,f.trans G3⟩
end Go.Proofs.YtjfaogajmoffoaaGreatDoor
