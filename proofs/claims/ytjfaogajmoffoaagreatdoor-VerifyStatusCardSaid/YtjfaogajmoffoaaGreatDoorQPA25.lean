/- Lemmas for VerifyStatus. -/
import Derived.Test.YtjfaogajmoffoaaGreatDoorQPA24
import Derived.Test.YtjfaogajmoffoaaGreatDoorRows
import Derived.LaidSub
set_option maxRecDepth 100000
set_option maxHeartbeats 16000000
set_option linter.all false
namespace Go.Proofs.YtjfaogajmoffoaaGreatDoor
open Go.RowKit Go.Proofs.Tryz
def Rh{L:List Rl}{y:Rl}{a d:Int}(h:im L y a d=0):0<=y.at_.n/\y.at_.n<=999:=by
 unfold im at h;by_cases b:a≠5
 .rw[aG b]at h;exact absurd h (aH rfl)
 rw[aF b]at h;by_cases c:y.at_.n<0\/999<y.at_.n
 .rw[aG c]at h;exact absurd h (aH rfl)
 .omega
def ny.step{L:List Rl}(h:ny L):∀k (b:k<L.length),im (L.take k) L[k] 5 (L[k].at_.n+1)=0:=by
 induction h with
 |nil=>intro k b;exact absurd b (lZ _)
 | @add L y h0 h1 ih=>
  intro k b;by_cases a:k<L.length
  .rw[us (by omega),List.getElem_append_left a];exact ih k a
  .simp only[bV,jN]at b
   obtain rfl:k=L.length:=by omega
   rw[us (aU _),jS,IZ rfl];exact h1
def yj(y:Rl):bU:=⟨eS,y.at_.a,0,.slice none 0 0,eS,.slice none 0 0,bM,eS,eS,y.at_.n,y.h,y.r,y.leaf,eS⟩
def vG(y:Rl):Cm:=⟨5,bM,⟨#[]⟩,0,false,[],⟨#[]⟩,y.at_.n+1,y.nh,y.nr⟩
def VL(f h:Nat->Value)(m l:Int)(w:aB):(Instr.build 46 #[(1,aE ((List.range 16).map f)),(9,.int .i64 m),(10,aE ((List.range 17).map h)),(11,.int .i64 l)]).run prog w
  =.ok (aE (.string eS::((List.range 16).map f++(.int .i64 0::.slice none 0 0::.string eS::.slice none 0 0::(bC bM++(.string eS::.string eS::.int .i64 m::((List.range 17).map h++[.int .i64 l,.string eS]))))))) w:=by kernel_rfl
@[go_sem] def ag5 (a:aK) (n h:Int) (r:aK) (l:Int) (w:aB):eG prog 46 #[(1,aE (bC a)),(9,.int .i64 n),(10,aE (aN h r)),(11,.int .i64 l)] w
  =.ok (.value (aE (aX ⟨eS,a,0,.slice none 0 0,eS,.slice none 0 0,bM,eS,eS,n,h,r,l,eS⟩))) w:=fe (by
 have e:=VL;rw[gi (bC a) 16 (aO _),gi (aN h r) 17 (bG _ _),e];rw[<-gi (bC a) 16 (aO _),<-gi (aN h r) 17 (bG _ _)];simp[aX])
def PZ(h:Nat->Value)(m:Int)(w:aB):(Instr.build 87 #[(0,.int .i64 5),(7,.int .i64 m),(8,aE ((List.range 17).map h))]).run prog w
  =.ok (aE ([Value.int .i64 5]++(bC bM++([Value.string ⟨#[]⟩,Value.int .i64 0,Value.bool false,bB,Value.string ⟨#[]⟩,Value.int .i64 m]++(List.range 17).map h)))) w:=by kernel_rfl
@[go_sem] def ahj (n h:Int) (r:aK) (w:aB):eG prog 87 #[(0,.int .i64 5),(7,.int .i64 n),(8,aE (aN h r))] w
  =.ok (.value (aE (aL ⟨5,bM,⟨#[]⟩,0,false,[],⟨#[]⟩,n,h,r⟩ bB))) w:=fe (by
 rw[gi (aN h r) 17 (bG _ _),PZ,<-gi (aN h r) 17 (bG _ _)];rfl)
def JU(L:List Rl)(w:aB)(e:Ending)(w':aB):Prop:=∃x a b,e=.returned (bZ x)/\Rg w' w.heap.size x a b L/\Gr w w'
def WO(L:List Rl)(v:Value)(w:aB)(R:bX w v 84 (L.map bK))(hA:ny L)(hK:Kt w)(hl:L.length<=900):
  Calls prog 10 #[v] w (JU L w):=by
 obtain⟨ad,Z,rfl,hc,hj⟩:=id R;rw[cL]at hc|-
 rw[cL]at R;have HV:=aA R;have HK:=aA hK;have T:=aA hA.step
 have E:Hid (∀k (hk:k<L.length),∃t O,ad=some (aD t O)/\∀V,Gr w V->yT V t (O+k*84) L[k]/\t<V.heap.size):=fun k hk=>by
  obtain⟨a1,H,e1,-,hj⟩:=HV.out;obtain⟨t,O,ha,hb,u1,u2⟩:=hj k (by rw[cL];exact hk);obtain⟨rfl,rfl⟩:ad=a1/\Z=H:=by simpa using e1
  rw[ig]at u2;exact⟨t,O,ha,fun V hV=>⟨vA ((hV.hasRow hb).trans u1) ((hV.rowAt hb).trans u2),dQ hb hV.size⟩⟩
 have S:=aA (IE w);go_in;go_wp2_with fail;refine S.mono ?_;rintro e w1 ⟨x,X,Y,rfl,M,g0⟩;have C:=aA M;have G0:=aA g0;obtain⟨base,p⟩:=ex w.heap.size;rw[p]at C;have z:=aA p;go_wp2_with fail
 go_loopw [4] (fun i wr=>∃k:Nat,k<=L.length/\i=.int .i64 (k:Int)/\Hid (Rg wr base x X Y (L.take k))/\Hid (Gr w wr)) (fun i _=>L.length-(intOf i).toNat)
 .exact⟨0,bW _,rfl,C,G0⟩
 .
  obtain⟨k,hk,rfl,Q,hG⟩:=hrel;by_cases q:k<L.length
  .have q1:(k:Int)<(L.length:Int):=by omega
   have q2:=nn k
   obtain⟨t,O,rfl,g⟩:=E.out k q;obtain⟨p1,p2,-,-,-,-,-,-,-,-,-,-⟩:=(g wr hG.out).1;have c:=aA (T k q);have F:Hid (L.take (k+1)=L.take k++[L[k]]):=eF q;have G:=aA (show (L.take k).length<=900 by rw[dP];omega)
   generalize L[k]=y at*
   obtain⟨U,K⟩:=ex (L.take k);rw[K]at Q c F G;obtain⟨aa,ab⟩:=Rh c.out;have l0:=fM ep;have l1:=fM y;have l2:=pQ y;obtain⟨m,hm⟩:=ex wr.heap.size;obtain⟨s,j,G1,X1⟩:=gO hm (aC (bK y) 76)
   have R1:=aA (Q.gr G1);have u:=aA (hG.trans G1);have HAD:=aA (Wz base x X Y U y.id (yj y) (vG y) bB y.at_.h s R1 (HK.gr u) G);have B:Hid (vL U y.id (yj y) (vG y)=0):=by
    show _=_;rw[<-Xo U y.id (yj y) y.at_.h (vG y)];exact c
   have D:Hid (sL y.id (yj y) y.at_.h (vG y).height (vG y).root=y):=rfl;rw[B.out,aG rfl,D.out,<-F.out]at HAD;have f:=vA (W:=s) (b:=m) (o:=0) (aP X1 0 84 (by rw[fM];decide)) ((bJ X1 0 84 (by rw[fM];decide)).trans (b_ _ _ (fM _)));obtain⟨e1,e2,e3,e4,e5,e6,e7,J,P,I,a,d⟩:=f;simp only[fB]at e5 e6 e7 J P I a d;have a2:s.cell? (aD m 49)=some (.int .i64 y.h):=qh J P 0 _ rfl;have a3:s.cell? (aD m 67)=some (.int .i64 y.nh):=qh a d 0 _ rfl;have a4:=pq J 1 16 (aH rfl);have a5:rowAt s (aD m 50) 16=bC y.r:=(pV J P 1 16 (aH rfl)).trans (by unfold dD aN;rw[ib,gd,eq (by rw[aO];exact aU _)]);have a6:=pq a 1 16 (aH rfl);have a7:rowAt s (aD m 68) 16=bC y.nr:=(pV a d 1 16 (aH rfl)).trans (by unfold dD aN;rw[ib,gd,eq (by rw[aO];exact aU _)]);have a9:wrap64 (y.at_.n+1)=y.at_.n+1:=(rG _).symm.trans (by rw[cV];omega);unfold yj vG at HAD;obtain⟨yi,⟨ya,yn,a8⟩,yh,yr,yl,ac,ae⟩:=y;dsimp only at*
   go_wp2_with fail;try rw[j]
   refine HAD.mono ?_;rintro e w2 ⟨rfl,N,l⟩;have R2:=aA N;have G2:Hid (Gr w w2):=by show Gr _ _;rw[<-z.out]at l;exact vQ u l
   replace j:=aA j;replace hm:=aA hm;go_wp2_with fail;go_roundw
   .exact⟨k+1,by omega,by go_num,R2,G2⟩
   .simp[intOf];omega
  .obtain rfl:k=L.length:=by omega
   have q1:¬(L.length:Int)<(L.length:Int):=by omega
   rw[jS]at Q;go_wp2_with fail;go_ret;exact⟨x,X,Y,rfl,by rw[z.out];exact Q,hG⟩
def Au{H:Type}(a:bP):DataW H:=.agg (a.map fun s=>.lit (.string s.data.toList))
def PQ{a b:aJ}(h:a.data.toList=b.data.toList):a=b:=by
 cases a with|mk x=>cases b with|mk y=>exact ei ByteArray.mk (Array.toList_inj.1 h)
def abh{H:Type}{f:TypeId×Value->H}{P:Program}{w:aB}{base:Nat}{F:Nat->Bool}{c:Bool}{fuel:Nat}{t e:TypeId}{n:Nat}{cs:bF}{d:bP}{p:List MemPlace}
  (B:P.underlying t=some (.array n e)) (y:P.underlying e=some .string) (g:P.cellsOf e=1) (j:P.cellsOf t=n)
  (h:DataW.trod f P w base F c fuel t cs=some (Au d,p)):cs=d.map Value.string:=by
 cases fuel with
 |zero=>simp[DataW.trod]at h
 |succ fuel=>
  simp only[DataW.trod,B,g,j,ld]at h;split at h
  .rename_i G
   obtain⟨r,o,C⟩:=o4.1 h
   have l:r.map (·.1)=d.map fun s=>(DataW.lit (.string s.data.toList):DataW H):=by
    have:=ei Prod.fst C;simpa[Au]using this
   have D:r.length=n:=by simpa using Lib.mapM_length o
   have A:d.length=n:=by
    have:=ei List.length l;simp only[cL]at this;omega
   refine FJ (by rw[cL];omega) fun i E q=>?_;rw[cL]at q;have k:i<n:=by omega
   obtain⟨b,v,z⟩:=Lib.mapM_at o i i (by simp[k]);obtain⟨s,x,rfl,_⟩:=DataW.trod_string y z;have a:=ei (·[i]?) l
   simp only[fo,v,jm,cO q]at a;have u:s=d[i]:=by
    injection a with a;injection a with a;injection a with a;exact PQ a
   have m:=ei (·[0]?) x
   simp only[mi,kM,ms]at m;rw[ig,<-u];simpa[E]using m
  .cases h
def Sv{P:Program}{W:aB}{a:String}{l:bP}{rest:List (String×DataW Unit)}{g:Nat}{t e:TypeId}{n:Nat}
  (hg:P.globalNamed a=some g) (k:(P.globals[g]?).map (·.type)=some t) (v:P.underlying t=some (.array n e)) (r:P.underlying e=some .string) (b:P.cellsOf e=1) (d:P.cellsOf t=n)
  (h:laidMet P ((a,Au l)::rest) W) (i:Nat) (s:aJ) (u:l[i]? =some s):W.cell? (aD g i)=some (.string s):=by
 obtain⟨x,⟨w,y,cs,m,p,q,f,j,hvar,o,_,_⟩,_⟩:=h;obtain rfl:=iP (hg.symm.trans f);obtain rfl:=iP (k.symm.trans j);have c:=abh v r b d o;rw[World.var?_cell hg hvar i];have:cs[i]? =(l.map Value.string)[i]? :=by rw[<-c,tv]
 rw[this,fo,u];rfl
def DY:List Int:=[0,1,2,2]
def yO:List Int:=yX.map fun c=>(c.toNat:Int)
def vD:List Int:=(List.range 64).map fun i=>((kN i).toNat:Int)
def Ty:(Rows.verifyStatusRow.laid.filter fun x=>x.1== "bulletin/base64.alphabet")=[("bulletin/base64.alphabet",Lib.tabData .u8 yO)]:=by kernel_rfl
def Sj:(Rows.verifyStatusRow.laid.filter fun x=>x.1== "bulletin/sha256.constants")=[("bulletin/sha256.constants",Lib.tabData .u32 vD)]:=by kernel_rfl
def Va:(Rows.verifyStatusRow.laid.filter fun x=>x.1== "bulletin/verify.judged")=[("bulletin/verify.judged",Lib.tabData .i64 DY)]:=by kernel_rfl
def VS:(Rows.verifyStatusRow.laid.filter fun x=>x.1== "bulletin/canonical.formWords")=[("bulletin/canonical.formWords",Au eM)]:=by kernel_rfl
def Xn:(Rows.verifyStatusRow.laid.filter fun x=>x.1== "internal/strconv.uint64pow10")=[("internal/strconv.uint64pow10",Lib.tabData .u64 Lib.pow10Tab)]:=by kernel_rfl
def Nb:prog.globalNamed "bulletin/base64.alphabet" =some 3 :=by kernel_rfl
def Ie:prog.globalNamed "bulletin/sha256.constants" =some 2 :=by kernel_rfl
def M9:prog.globalNamed "bulletin/verify.judged" =some 0 :=by kernel_rfl
def ZQ:prog.globalNamed "bulletin/canonical.formWords" =some 1 :=by kernel_rfl
def Ox:(prog.globals[3]?).map (·.type)=some 250 :=by kernel_rfl
def Pt:(prog.globals[2]?).map (·.type)=some 167 :=by kernel_rfl
def XL:(prog.globals[0]?).map (·.type)=some 123 :=by kernel_rfl
def Py:(prog.globals[1]?).map (·.type)=some 204 :=by kernel_rfl
def YW:(prog.globals[5]?).map (·.type)=some 373 :=by kernel_rfl
def aa1{W:aB}(h:W.ShapedOpen prog):ff W:=cell_of_shapedOpen_int (P:=prog) (g:=4) (t:=3) (zero:=#[.int .i64 0]) h (oG (by kernel_rfl)) (by kernel_rfl) rfl (by kernel_rfl) (by kernel_rfl) underlying3
structure m6(w:aB):Prop where
 b:Bs w
 j:∀i z,DY[i]? =some z->w.cell? (aD 0 i)=some (.int .i64 z)
 p:Pw w
def m6.gr{w w':aB}(h:m6 w)(a:Gr w w'):m6 w':=
 ⟨h.b.gr a,fun i z c=>(a.cell (p:=⟨0,i,none⟩) (ka w _ (h.j i z c))).trans (h.j i z c),h.p.gr a⟩
def abD{W:aB}(h:laidMetH prog Rows.verifyStatusRow.laid W)(f:W.ShapedOpen prog):m6 W:=by
 have c:laidMet prog Rows.verifyStatusRow.laid W:=h;have g:=laidMet.filter (fun x=>x.1== "bulletin/base64.alphabet") c;rw[Ty]at g;have k:=laidMet.filter (fun x=>x.1== "bulletin/sha256.constants") c;rw[Sj]at k;have l:=laidMet.filter (fun x=>x.1== "bulletin/verify.judged") c;rw[Va]at l;have n:=laidMet.filter (fun x=>x.1== "bulletin/canonical.formWords") c;rw[VS]at n;have o:=laidMet.filter (fun x=>x.1== "internal/strconv.uint64pow10") c;rw[Xn]at o;have p:=aa1 f;refine⟨⟨p,fun i hi=>?_,fun i s u=>?_,fun i hi=>?_,?_⟩,fun i z q=>?_,?_⟩
 .have d:=Bm (rest:=[]) Nb Ox underlying250 underlying5 cellsByte (by kernel_rfl) g
  have a:=d.cell Nb i (by show i<yO.length;rw[show yO.length=64 by decide];exact hi);have e:∀j:Fin 64,yO.getD j.val 0=((cP j.val).toNat:Int):=by decide+kernel
  have b:yO.getD i 0=((cP i).toNat:Int):=e ⟨i,hi⟩;rw[b]at a;exact a
 .exact Sv (rest:=[]) ZQ Py underlying204 underlying9 (by kernel_rfl) (by kernel_rfl) n i s u
 .have d:=Bm (rest:=[]) Ie Pt underlying167 underlying165 (by kernel_rfl) (by kernel_rfl) k
  have a:=d.cell Ie i (by show i<vD.length;rw[show vD.length=64 by simp[vD]];exact hi);have b:vD.getD i 0=((kN i).toNat:Int):=by unfold vD;simp[List.getD,hi]
  rw[b]at a;exact a
 .obtain⟨m,t⟩:=p
  exact ka W _ t
 .have d:=Bm (rest:=[]) M9 XL underlying123 underlying3 (by kernel_rfl) (by kernel_rfl) l
  have r:=(nG.1 q).1;have a:=d.cell M9 i r;have b:DY.getD i 0=z:=by simp[List.getD,q]
  rw[b]at a;exact a
 .exact Bm Db YW underlying373 underlying234 (by kernel_rfl) (by kernel_rfl) o
def m6.bg{w:aB}(h:m6 w):Bg w:=⟨⟨h.b.e,h.b.a,h.b.m⟩,h.p,h.b.wd,h.b.k⟩
def m6.jud{w:aB}(h:m6 w):rj w:=h.j
def ow:ByteArray:=⟨#[116,101,97]⟩
def wm:ByteArray:=⟨#[116,101,110]⟩
def Hl:pY iU=iS:=rfl
def EK:mO 1 iS=uB:=by
 unfold mO;rw[MX];exact abF
def Hu(s:aJ):EF kJ iS s=[eS,bs (dF tT),zS,aS,s,eS,eS,eS,eS,zS++⟨#[32]⟩++bs uB,zS]:=by
 have a:lI kJ=dF tT:=by unfold lI;rw[Vp]
 unfold EF FZ;rw[a,EK]
def Kl:jE kJ iS ow=BT tT GQ uB:=by
 unfold jE;rw[Hu];decide+kernel
def NL:jE kJ iS wm=BT tT Jf uB:=by
 unfold jE;rw[Hu];decide+kernel
def Hc(c:Nat)(h:1<=c):Ok kJ iS ow c:=⟨by decide+kernel,by decide+kernel,by decide,h,by rw[EK];rfl,by rw[Kl];decide+kernel⟩
def Zz(c:Nat)(h:1<=c):Ok kJ iS wm c:=⟨by decide+kernel,by decide+kernel,by decide,h,by rw[EK];rfl,by rw[NL];decide+kernel⟩
def wR:Nat->aK:=kI iU 0 (cF (jE kJ iS ow))
def U':kS (cF (jE kJ iS ow)) ⟨0,wR,[il iU 1]⟩=iS:=by
 show gQ 0 0 (jx 0 (jB 0 (cF (jE kJ iS ow)) (kI iU 0 (cF (jE kJ iS ow)))).toList) [il iU 1]=iS;rw[Oy];rfl
def SL:kS (cF (jE kJ iS wm)) ⟨0,wR,[il iU 1]⟩≠iS:=by
 have h:=PL (cF (jE kJ iS ow)) (cF (jE kJ iS wm)) (by rw[Av,Kl];exact S3) (by rw[Av,NL];exact abk);exact h
def CV{a r:aK}{s:aJ}{g c:Nat}(q:lY (bl s)=true)(t:gJ s=true)(v:s.size<=200):fc (gh a r s g c) [aS] []=0:=by
 have k:kF 0 s 200=0:=Le s 200 q t (by omega);have j:∀m:Int,0<=m->kF 0 eS m=0:=fun m u=>Le eS m Od YD u;have l:kG [aS]=0:=by decide+kernel
 have n:gq []=0:=by decide+kernel
 have o:cH 1=0:=by decide+kernel
 have p:o3 eS=0:=by decide+kernel
 show cQ (cQ (cQ (cQ (cQ (oZ (lC (cQ (kF (cQ (cQ (kF 0 eS 60) (mG (gh a r s g c)) 13) true (kG [aS])) s 200) true (gq [])) (gh a r s g c)) eS) (o8 (gh a r s g c)) 2) true (cH 1)) (oL (gh a r s g c)) 2) (decide (57344<eS.size)) 5) true (o3 eS)=0;have b:mG (gh a r s g c)=false:=rfl;have d:o8 (gh a r s g c)=false:=rfl;have e:oL (gh a r s g c)=false:=rfl;have f:lC 0 (gh a r s g c)=0:=rfl;have h:oZ 0 eS=0:=by decide+kernel
 have i:decide (57344<eS.size)=false:=rfl;simp only[j 60 (aH rfl),k,l,n,o,p,b,d,e,f,h,i,Il,Vu]
def Gm{a r:aK}{s:aJ}{g c:Nat}:dR (gh a r s g c) [aS] []=jE a r s:=by
 have d:mA [aS]=aS:=by decide+kernel
 have e:ln []=eS:=by decide+kernel
 have f:nl bM=eS:=by decide+kernel
 have b:gu 0=zS:=by decide+kernel
 have h:lT (gh a r s g c)=FZ r:=by
  show gu 0++⟨#[32]⟩++nf 1 r=_;rw[b];rfl
 show(eM.zip [eS,bs (lI a),gu 0,mA [aS],s,ln [],nl bM,eS,eS,lT (gh a r s g c),gu 0]).flatMap mq++10::bl eS=_;rw[d,e,f,b,h];rfl
def Gv{a r:aK}{s:aJ}{g c:Nat}(b:s.size<=200):iO (gh a r s g c) [aS]:=
 ⟨by show 0+s.size+0+0<=2000;omega,bW 2000,by decide,by decide,(by decide:(-9223372036854775808:Int)<=0/\(0:Int)<=9223372036854775807),(by decide:(-9223372036854775808:Int)<=0/\(0:Int)<=9223372036854775807),(by decide:(-9223372036854775808:Int)<=0/\(0:Int)<=9223372036854775807)⟩
def Np{a r:aK}{s:aJ}{g c:Nat}(e:1<=c){w:aB}(d:ol w g):fF w (gh a r s g c) [aS] []:=
 ⟨⟨⟨some (aD g 0),c,rfl,fun j b=>by
  obtain rfl:j=0:=by simpa using b
  exact⟨g,0,rfl,d.lt,d.c⟩⟩,some (aD g 0),c,rfl,e⟩,⟨none,0,rfl,aU _,fun j b=>by simp at b⟩⟩
def aeb{a r:aK}{s:aJ}{g c:Nat}(h:Ok a r s c){w:aB}(b:Bg w)(d:ol w g):Calls prog 33 #[aE (aX (gh a r s g c))] w (RG w (.tuple #[aE (bC (fX (jE a r s))),.int .i64 0])):=by
 have:=ym (gh a r s g c) [aS] [] w (Gv h.z) (Np h.c d) b;rw[jJ,aG (CV h.p h.q h.z),CV h.p h.q h.z,Gm]at this;exact this
def Zc(d:Vector UInt8 32)(a:aK)(s:aJ)(g c:Nat)(a5:Ok a (pY d) s c)(w:aB)(hB:Bg w)(a2:ol w g):
  Calls prog 13 #[aE (aX (gh a (pY d) s g c)),aE (fL d 1)] w fun e w'=>∃P,e=.returned (.tuple #[aE (aW 0 (kI d 0 (cF (jE a (pY d) s))) P),.int .i64 0])/\dA 22 w' w.heap.size P [il d 1]/\Gr w w':=by
 obtain⟨n,hn⟩:=ex w.heap.size;have HN:=aA hn;obtain⟨k,hk⟩:=ex (gh a (pY d) s g c);obtain⟨q,hU,Q,H0,-,H2⟩:=jP hn (aC (aX k) 46) (aC (fL d 1) 55) (aC (aW 0 (fun _=>aQ) ke) 47)
 have H1:Hid (mv q (n+1) d 1):=⟨by
  rw[<-hU];exact(((Gr.refl _).alloc _).block (by simp;omega)).trans (aY _ _ _ (by simp;omega))⟩
 obtain⟨F,hF⟩:=ex (jE a (pY d) s)
 have U:Hid (∀W,Gr q W->CG 33 #[aE (aX k)] W (.tuple #[aE (bC (fX F)),.int .i64 0])):=fun W hW=>by
  rw[<-hk,<-hF];exact aeb a5 (hB.gr (Q.trans hW)) (a2.gr (Q.trans hW))
 have I:Hid (∀W,CG 35 #[aE (bC (fX F))] W (aE (bC (cF F)))):=fun W=>Ly F W;have V:=aA (Ge d);have J:Hid (∀W,Kt W->Calls prog 34 #[aE (fL d 1),.int .i64 0,aE (bC (cF F))] W fun e w'=>∃P,e=.returned (.tuple #[aE (aW 0 (kI d 0 (cF F)) P),.int .i64 0])/\dA 22 w' W.heap.size P [il d 1]/\Gr W w'):=fun W h=>adz d (cF F) W h;have k8:aN k.height k.root=aN 1 (pY d):=by rw[<-hk];rfl
 have k9:k.leaf=0:=by rw[<-hk];rfl
 have ab:=dO k;rw[hF,hk];obtain⟨E,hE⟩:=ex (kI d 0 (cF F));rw[hE]at J|-
 obtain⟨D,hD⟩:=ex (cF F);rw[hD]at I J;obtain⟨y,hy⟩:=ex (fX F);rw[hy]at U I;generalize il d 1=L at*
 obtain⟨r,hr⟩:=ex (pY d);rw[hr]at V k8;have G:iN 1 r 1 r=true:=by simp[iN]
 have KS:Hid (∀W,Gr q W->FN W (n+1) d 1/\nS W n k):=fun W hW=>⟨(H1.gr hW).facts,jz ((hW.block (aI H0)).trans H0)⟩;have b1:=cC y;have b2:=gE y;have b3:=p6 d 1;have b4:=IX d 1;have b5:=h_ 1 r;have b6:=bG 1 r;have b7:=aO D;have b8:=cZ D;replace hU:=aA hU;have T:=aA hB;obtain⟨⟨r0,r1,r2,r3,r4,r5⟩,f⟩:=KS.out q (Gr.refl q);have f0:=f.w0;have Y:=f.w1;have f2:=f.z;clear f hk hr hF hD hy hE a5 hB a2;go_in;go_wp2_with fail;try simp only[hn]
 rw[hU.out];refine bA (U q (Gr.refl q)) fun w1 g1=>?_;have G1:=aA g1;clear g1 r0 r1 r2 r3 r4 r5 f0 Y f2;obtain⟨⟨r0,r1,r2,r3,r4,r5⟩,f⟩:=KS.out (w1.alloc (aC (bC y) 26)) (G1.out.alloc _);clear f;obtain⟨m,hm⟩:=ex w1.heap.size;have hx:=aA (aY w1 (aC (bC y) 26) m hm.symm);go_wp2_with fail;obtain⟨w2,a7⟩:∃W,w1.alloc (aC (bC y) 26)=W:=⟨_,rfl⟩;have G2:Hid (Gr q w2):=a7▸G1.out.alloc _
 rw[a7]at hx|-
 have a4:Hid (n+1+1<m):=hm▸aI ((G1.block (aI H2)).trans H2)
 refine bA (V w2 (T.gr (Q.trans G2)).k) fun w3 g3=>?_;have G3:=aA g3;clear g3 r0 r1 r2 r3 r4 r5;obtain⟨f',f⟩:=KS.out (w3.alloc (aC (aN 1 r) 44)) ((G2.out.trans G3.out).alloc _);clear f';have f0:=f.pu0;have Y:=f.pu1;have f2:=f.z;rw[k8]at Y;clear f;go_wp2_with fail;obtain⟨t,C⟩:∃W,w3.alloc (aC (aN 1 r) 44)=W:=⟨_,rfl⟩;have G4:Hid (Gr w2 t):=C▸G3.out.alloc _
 have p:Hid (Gr q t):=G2.trans G4;rw[C]at f0 Y f2|-
 have KR:Hid (∀u:aB,u.heap[n]? =t.heap[n]? ->u.heap[n+1]? =t.heap[n+1]? ->u.heap[m]? =t.heap[m]? ->hasRow u (aD (n+1) 0) 33=true/\rowAt u (aD (n+1) 0) 33=fL d 1/\u.cell? (aD n 73)=some (.int .i64 0)/\u.rangeAt m 0 (bC y)):=fun u q0 q1 q2=>by
  have h0:=q0.trans ((p.block (aI H0)).trans H0);have Z:mv u (n+1) d 1:=⟨q1.trans (H1.gr p).b⟩;have h2:=q2.trans ((G4.block (aI hx)).trans hx);refine⟨Z.facts.a0,Z.facts.a1,by rw[(jz h0).leaf,k9],?_⟩;exact Kn (aP h2 0 32 (by simp[cC])) ((bJ h2 0 32 (by simp[cC])).trans (b_ _ _ (cC y))) (cC y)
 have N:Hid (m<t.heap.size):=aI ((G4.block (aI hx)).trans hx)
 have KG:Hid (∀u,Gr t u->hasRow u (aD (n+1) 0) 33=true/\rowAt u (aD (n+1) 0) 33=fL d 1/\u.cell? (aD n 73)=some (.int .i64 0)/\u.rangeAt m 0 (bC y)):=fun u hu=>by
  have Z:=N.out;have h2:=a4.out;exact KR u (hu.block (by omega)) (hu.block (by omega)) (hu.block Z)
 have a6:=underlying26;have a3:(prog.info? 26).map (·.size)=some (bC y).length:=by rw[cC];kernel_rfl
 replace C:=aA C;refine wp_region_held_drew (S:=(fun u=>hasRow u (aD (n+1) 0) 33=true/\rowAt u (aD (n+1) 0) 33=fL d 1/\u.cell? (aD n 73)=some (.int .i64 0)/\u.rangeAt m 0 (bC y))) (by kernel_rfl) (KG _ (Gr.refl t).drew) (fun j=>?_);refine oa (i:=0) (oi:={ dst:=some 32,op:=Op.load 55 (Operand.tmp 3),type:=55,pos:= "canonical.go:248",after:=#[],guard:=none }) (v:=?_) rfl (by kernel_rfl) (by kernel_rfl) (by kernel_rfl) (fun _ _ _ h=>h) (qG ⟨by rfl,?_⟩) (by assumption) ?_;rotate_left
 .intro u l;(try dsimp only at l);go_split_ands;go_simp;all_goals with_reducible rfl
 try simp only[Act.put,fx,eZ,fj]
 refine oa (i:=1) (oi:={ dst:=some 33,op:=Op.fieldAddr 46 (Operand.tmp 2) 11,type:=0,pos:= "canonical.go:248",after:=#[],guard:=none }) (v:=?_) rfl (by kernel_rfl) (by kernel_rfl) (by kernel_rfl) (fun _ _ _ h=>h) (qG ⟨by rfl,?_⟩) (by assumption) ?_;rotate_left
 .intro u l;(try dsimp only at l);go_split_ands;go_simp;all_goals with_reducible rfl
 try simp only[Act.put,fx,eZ,fj]
 refine oa (i:=2) (oi:={ dst:=some 34,op:=Op.load 3 (Operand.tmp 33),type:=3,pos:= "canonical.go:248",after:=#[⟨1,Ground.data⟩],guard:=none }) (v:=?_) rfl (by kernel_rfl) (by kernel_rfl) (by kernel_rfl) (fun _ _ _ h=>h) (qG ⟨by rfl,?_⟩) (by assumption) ?_;rotate_left
 .intro u l;(try dsimp only at l);go_split_ands;go_simp;all_goals with_reducible rfl
 try simp only[Act.put,fx,eZ,fj]
 refine oa (i:=3) (oi:={ dst:=some 35,op:=Op.load 26 (Operand.tmp 6),type:=26,pos:= "canonical.go:248",after:=#[],guard:=none }) (v:=_) rfl (by kernel_rfl) (by kernel_rfl) (by kernel_rfl) (fun _ _ _ h=>h) (L' (by rfl) 26 _ rfl m 0 rfl (bC y) _ (fun u l=>l.2.2.2) a6 rfl a3) (by assumption) ?_;try simp only[Act.put,fx,eZ,fj]
 refine wpAnyH_ready (rs:=[4]) (by kernel_rfl) (by simp) ?_;refine AllReadyH.cons (o:={ dst:=some 36,op:=Op.call { callee:=Callee.value (Operand.func 35),args:=#[Operand.tmp 35],argTypes:=#[26] },type:=22,pos:= "canonical.go:248",after:=#[⟨3,Ground.data⟩],guard:=none }) rfl (fun K H=>?_) AllReadyH.nil;go_simp;go_at_call 35;refine bA (I _) fun u1 g=>?_;have X:=Gr.trans (Gr.refl t).drew g;clear g;try go_wp2_with fail
 refine H _ _ (KG _ X) (fun j=>?_);try simp only[Act.put,fx,eZ,fj]
 refine wpAnyH_ready (rs:=[5]) (by kernel_rfl) (by simp) ?_;refine AllReadyH.cons (o:={ dst:=some 37,op:=Op.call { callee:=Callee.value (Operand.func 34),args:=#[Operand.tmp 32,Operand.tmp 34,Operand.tmp 36],argTypes:=#[55,3,22] },type:=61,pos:= "canonical.go:248",after:=#[⟨0,Ground.data⟩,⟨2,Ground.data⟩,⟨4,Ground.data⟩,⟨4,Ground.chain⟩],guard:=none }) rfl (fun K H=>?_) AllReadyH.nil;go_simp;go_at_call 34;refine(J u1 (T.gr (Q.trans (p.trans X))).k).mono ?_;rintro e u2 ⟨P,rfl,O,g⟩;obtain⟨x,B,G⟩:=O.shape;replace G:P=.slice x 1 B:=G;subst G;have R:=Gr.trans X g;try go_wp2_with fail
 refine H _ _ (KG _ R) (fun j=>?_);try simp only[Act.put,fx,eZ,fj]
 refine oa (i:=6) (oi:={ dst:=some 38,op:=Op.extract (Operand.tmp 37) 0,type:=47,pos:= "canonical.go:248",after:=#[⟨5,Ground.data⟩],guard:=none }) (v:=?_) rfl (by kernel_rfl) (by kernel_rfl) (by kernel_rfl) (fun _ _ _ h=>h) (qG ⟨by rfl,?_⟩) (by assumption) ?_;rotate_left
 .intro u l;(try dsimp only at l);go_split_ands;go_simp;all_goals with_reducible rfl
 try simp only[Act.put,fx,eZ,fj]
 refine oa (i:=7) (oi:={ dst:=some 39,op:=Op.extract (Operand.tmp 37) 1,type:=56,pos:= "canonical.go:248",after:=#[⟨5,Ground.data⟩],guard:=none }) (v:=?_) rfl (by kernel_rfl) (by kernel_rfl) (by kernel_rfl) (fun _ _ _ h=>h) (qG ⟨by rfl,?_⟩) (by assumption) ?_;rotate_left
 .intro u l;(try dsimp only at l);go_split_ands;go_simp;all_goals with_reducible rfl
 try simp only[Act.put,fx,eZ,fj]
 have M:=aA (((p.trans R).block (aI H2)).trans H2);have z0:=aP M 0 562 (by rw[d_];decide);have z1:=bE M 0 562;have z3:=d_ 0 E (.slice x 1 B);have z4:=mn 0 E x 1 B;refine wpAnyH_ready (rs:=[8]) (by kernel_rfl) (by simp) ?_;refine AllReadyH.cons (o:={ dst:=none,op:=Op.store 47 (Operand.tmp 4) (Operand.tmp 38),type:=0,pos:= "canonical.go:248",after:=#[⟨6,Ground.data⟩,⟨5,Ground.chain⟩,⟨0,Ground.phase⟩,⟨1,Ground.phase⟩,⟨2,Ground.phase⟩,⟨3,Ground.phase⟩,⟨4,Ground.phase⟩,⟨5,Ground.phase⟩,⟨6,Ground.phase⟩,⟨7,Ground.phase⟩],guard:=none }) rfl (fun K H=>?_) AllReadyH.nil;go_simp;have aa:=a4.out;have a9:=N.out;refine H _ _ (KR _ ((cD (by omega) _ _ _).trans (R.block (by omega))) ((cD (by omega) _ _ _).trans (R.block (by omega))) ((cD (by omega) _ _ _).trans (R.block N))) (fun j=>?_);try simp only[Act.put,fx,eZ,fj]
 refine oa (i:=9) (oi:={ dst:=some 5,op:=Op.assign (Operand.tmp 39),type:=56,pos:= "canonical.go:248",after:=#[⟨7,Ground.data⟩,⟨8,Ground.chain⟩,⟨0,Ground.phase⟩,⟨1,Ground.phase⟩,⟨2,Ground.phase⟩,⟨3,Ground.phase⟩,⟨4,Ground.phase⟩,⟨5,Ground.phase⟩,⟨6,Ground.phase⟩,⟨7,Ground.phase⟩,⟨8,Ground.phase⟩],guard:=none }) (v:=?_) rfl (by kernel_rfl) (by kernel_rfl) (by kernel_rfl) (fun _ _ _ h=>h) (qG ⟨by rfl,?_⟩) (by assumption) ?_;rotate_left
 .intro u l;(try dsimp only at l);go_split_ands;go_simp;all_goals with_reducible rfl
 try simp only[Act.put,fx,eZ,fj]
 refine AW (by kernel_rfl) ?_ _;have HE:Hid (HB (u2.setCells (n+1+1) 0 (aW 0 E (.slice x 1 B))) (n+1+1) (aW 0 E (.slice x 1 B)) 47):=bO M (by rw[d_,d_])
 have a8:=aA ((Q.trans (p.trans R)).setsOwn (b:=n+1+1) (by have:=HN.out;omega) (aW 0 E (.slice x 1 B)) 0);have HO:Hid (dA 22 (u2.setCells (n+1+1) 0 (aW 0 E (.slice x 1 B))) w.heap.size (.slice x 1 B) [L]):=(O.kept (qK (aW 0 E (.slice x 1 B)) 0 _ (na u2 (some (n+1+1)))) (fun e=>by have Z:=(O.own e).1;have:=X.size;omega)).base ((Q.trans (p.trans X)).size);go_wp2_with fail;refine bI (jA rfl _ _ (n+1+1) _ _ _ _ rfl HE underlying47 rfl (AC _ _ _)) rfl ?_;exact⟨_,rfl,HO,a8⟩
end Go.Proofs.YtjfaogajmoffoaaGreatDoor
