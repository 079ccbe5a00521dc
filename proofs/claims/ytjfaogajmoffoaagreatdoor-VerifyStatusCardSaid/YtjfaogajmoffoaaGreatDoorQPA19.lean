/- Lemmas for VerifyStatus. -/
import Derived.Test.YtjfaogajmoffoaaGreatDoorQPA18
set_option maxRecDepth 100000
set_option maxHeartbeats 16000000
set_option linter.all false
namespace Go.Proofs.YtjfaogajmoffoaaGreatDoor
open Go.RowKit Tryz
@[go_sem] def agX:dZ prog 73 =true:=by kernel_rfl
@[go_sem] def aeX:prog.cellsOf 73 =17:=by kernel_rfl
def YK(h:Int)(f:Nat->Value)(w:aB):(Instr.build 73 #[(0,.int .i64 h),(1,aE ((List.range 16).map f))]).run prog w=.ok (aE (Value.int .i64 h::(List.range 16).map f)) w:=by kernel_rfl
@[go_sem] def agK (h:Int) (r:cE) (w:aB):eG prog 73 #[(0,.int .i64 h),(1,aE (bC r))] w=.ok (.value (aE (aN h r))) w:=fe (by rw[aN,ly];exact YK h _ w)
@[go_sem ↓ high] def ahF (w:aB):Sem.run prog (zeroValue 73) w=.ok (aE (aN 0 aQ)) w:=by kernel_rfl
structure PF(W:aB)(n:Nat)(h:Int)(r:aK):Prop where
 h0:W.cell? (aD n 0)=some (.int .i64 h)
 q0:hasRow W (aD n 1) 16=true
 q1:rowAt W (aD n 1) 16=bC r
 z:n<W.heap.size
def zR{W:aB}{n:Nat}{h:Int}{r:aK}{t:TypeId}(a:HB W n (aN h r) t):PF W n h r:=
 ⟨bH a 0,aP a 1 16 (by rw[bG];decide),(bJ a 1 16 (by rw[bG];decide)).trans (by
  unfold dD aN;rw[ib,gd,eq (by rw[aO];exact aU _)]),aI a⟩
def CA(h:Int)(r:aK)(w:aB):Calls prog 45 #[aE (aN h r)] w (RG w (.bool (decide (1<=h)&&decide (h<=8)))):=by
 obtain⟨n,b⟩:=ex w.heap.size;have f:=zR (W:=w.alloc (aC (aN h r) 73)) (aY _ _ n b.symm);obtain⟨c,d,g,i⟩:=f;have a:Hid (Gr w (w.alloc (aC (aN h r) 73))):=(Gr.refl w).alloc _;go_in;go_wp2;all_goals
  go_ret;refine⟨eU ?_,a⟩;simp<;>omega
def Jw(h:Int)(r:aK)(w:aB)(v:1<=h)(x:h<=8):Calls prog 46 #[aE (aN h r)] w (RG w (aE (bC (cF (gv h r))))):=by
 obtain⟨n,f⟩:=ex w.heap.size;have o:=aA f;obtain⟨p,d,m,j,g⟩:=gT f (aC (aN h r) 73) (aC (bC aQ) 22)
 have k:=aA (ab_ h r p v x);obtain⟨q,s,t,u⟩:=zR j.out;generalize cF (gv h r)=y at*
 have B:=aO y;have C:=cZ y;replace d:=aA d;go_in;go_wp2_with fail;try simp only[f]
 rw[d.out];refine bA k fun z i=>?_;have a:=aA ((i.block (aI g)).trans g);have D:=aP a 0 16 (by simp[aO]);have E:=bE a 0 16;clear q s t u;go_wp2_with fail;have l:Hid (HB (z.setCells (n+1) 0 (bC y)) (n+1) (bC y) 22):=bO a (by simp[aO])
 have c:=aA ((m.trans i).setsOwn (b:=n+1) (by have:=o.out;omega) (bC y) 0);refine bI (dY rfl _ _ (n+1) _ _ _ _ rfl l underlying22 rfl (by rw[bQ,aO];kernel_rfl)) rfl ?_;exact⟨rfl,c⟩
def M0(k:bU)(S:bF)(h:Int)(w:aB)(d:S.length=562)(c:S[0]? =some (.int .i64 h)):Calls prog 20 #[aE (dE k S)] w (RG w (aE (aN k.height k.root))):=by
 obtain⟨n,l⟩:=ex w.heap.size;obtain⟨p,a,-,i,g⟩:=gT l (aC (dE k S) 34) (aC (aN 0 aQ) 73)
 have f:SF ((w.alloc (aC (dE k S) 34)).alloc (aC (aN 0 aQ) 73)) n k S h:=uH d c (by rw[a];exact i);have s:=f.ht;have t:=f.q0;have u:=f.q1;have q:=bG k.height k.root;have r:=h_ k.height k.root;have m:=aP g 0 17 (by simp[bG]);have o:=bE g 0 17;rw[<-a]at m o;replace a:=aA a;go_in;go_wp2_with fail;have j:Hid (HB ((w.alloc (aC (dE k S) 34)).alloc (aC (aN k.height k.root) 73)) (n+1) (aN k.height k.root) 73):=aY _ _ _ (by simp;omega)
 have b:Hid (Gr w ((w.alloc (aC (dE k S) 34)).alloc (aC (aN k.height k.root) 73))):=((Gr.refl w).alloc _).alloc _;refine bI (dY rfl _ _ (n+1) _ _ _ _ rfl j underlying73 rfl (by rw[bQ,bG];kernel_rfl)) rfl ?_;exact⟨rfl,b⟩
def O'(a b:aM)(k:Nat)(c:k<a.length)(d:k<b.length):Lib.compareBytes (a.drop k) (b.drop k)=if a[k].toNat<b[k].toNat then-1 else if b[k].toNat<a[k].toNat then 1 else Lib.compareBytes (a.drop (k+1)) (b.drop (k+1)):=by
 rw[kR c,kR d,Lib.compareBytes];simp only[q9]
def MU(a b:aM)(m g o c C H P:Nat)(w:aB)(X:a.length=m)(Y:b.length=m)(hm:m<=1000)(A:cS w g o a)(B:cS w C H b):
  Calls prog 143 #[aR g o m c,aR C H m P] w (RG w (.int .i64 (Lib.compareBytes a b))):=by
 have F:=aA (O' a b);have N:Hid (Lib.compareBytes (a.drop 0) (b.drop 0)=Lib.compareBytes a b):=rfl;have d:Hid (Lib.compareBytes (a.drop m) (b.drop m)=0):=by
  show _=_;rw[jn (by omega),jn (by omega)];rfl
 have L:=aA A;have M:=aA B;generalize Lib.compareBytes a b=R at*
 go_in;go_wp2_with fail
 go_loopw [5] (fun j wr=>∃k:Nat,k<=m/\j=.int .i64 (k:Int)/\Hid (Lib.compareBytes (a.drop k) (b.drop k)=R)/\Hid (Gr w wr)) (fun j _=>m-(intOf j).toNat)
 .exact⟨0,bW _,rfl,N,Gr.refl w⟩
 .
  obtain⟨k,Z,rfl,D,t⟩:=hrel;by_cases Q:k<m
  .have U:(k:Int)<(m:Int):=by omega
   have q2:=nn k
   have u:k<a.length:=by omega
   have v:k<b.length:=by omega
   have G:Hid (∀V,Gr w V->V.cell? (aD g (o+k))=some (.int .u8 (a[k].toNat:Int))/\V.cell? (aD C (H+k))=some (.int .u8 (b[k].toNat:Int))/\g<V.heap.size/\C<V.heap.size):=fun V K=>by
    have I:=L.gr K;have J:=M.gr K;exact⟨I.2 k _ (cO u),J.2 k _ (cO v),I.1,J.1⟩
   have s:=F k u v;rw[D.out]at s;replace s:=aA s;generalize a[k].toNat=x at*
   generalize b[k].toNat=y at*
   obtain⟨l,n,p,r⟩:=G.out wr t.out;by_cases i:x<y
   .have h:R= -1:=by rw[s.out,aG i]
    subst h;have S:(x:Int)<(y:Int):=by omega
    go_wp2_with fail;refine ej (by kernel_rfl) (by kernel_rfl) ?_;repeat (go_big_quiet_step (fail))
    refine cX ?_;rintro _ ⟨q,rfl⟩;have f:=aA (t.trans (cK wr q));generalize gw wr q=V at*
    go_wp2_with fail;go_ret;exact⟨rfl,f⟩
   .have S:¬(x:Int)<(y:Int):=by omega
    by_cases z:y<x
    .have h:R=1:=by rw[s.out,aF i,aG z]
     subst h;have T:(y:Int)<(x:Int):=by omega
     go_wp2_with fail;refine ej (by kernel_rfl) (by kernel_rfl) ?_;repeat (go_big_quiet_step (fail))
     refine cX ?_;rintro _ ⟨q,rfl⟩;have f:=aA (t.trans (cK wr q));generalize gw wr q=V at*
     obtain⟨l,n,p,r⟩:=G.out V f.out;go_wp2_with fail;refine ej (by kernel_rfl) (by kernel_rfl) ?_;repeat (go_big_quiet_step (fail))
     refine cX ?_;rintro _ ⟨q,rfl⟩;have E:=aA (f.trans (cK V q));generalize gw V q=O at*
     go_wp2_with fail;go_ret;exact⟨rfl,E⟩
    .have h:=aA (show Lib.compareBytes (a.drop (k+1)) (b.drop (k+1))=R by rw[s.out,aF i,aF z])
     have T:¬(y:Int)<(x:Int):=by omega
     go_wp2_with fail;refine ej (by kernel_rfl) (by kernel_rfl) ?_;repeat (go_big_quiet_step (fail))
     refine cX ?_;rintro _ ⟨q,rfl⟩;have f:=aA (t.trans (cK wr q));generalize gw wr q=V at*
     obtain⟨l,n,p,r⟩:=G.out V f.out;go_wp2_with fail;refine ej (by kernel_rfl) (by kernel_rfl) ?_;repeat (go_big_quiet_step (fail))
     refine cX ?_;rintro _ ⟨q,rfl⟩;have E:=aA (f.trans (cK V q));generalize gw V q=O at*
     go_wp2_with fail;go_roundw
     .exact⟨k+1,by omega,by go_num,h,E⟩
     .simp[intOf];omega
  .obtain rfl:k=m:=by omega
   have U:¬(k:Int)<(k:Int):=by omega
   have h:R=0:=by rw[<-D.out];exact d
   subst h;have W:IntKind.i64.wrap ((k:Int)-(k:Int))=0:=by rw[cV];omega
   go_wp2_with fail;go_ret;exact⟨by first|rfl|simp[W]|simp,t⟩
def Jx{W:aB}{n:Nat}{h:Int}{r:aK}{t:TypeId}(a:HB W n (aN h r) t):cS W n 1 r.toList:=
 ⟨aI a,fun j x b=>by
  rw[bH a (1+j),pl 1 j];show(bC r)[j]? =_
  unfold bC;first
  |rw[fo,b];rfl
  |(simp[b,cU])⟩
def F6(h:Int)(r:aK)(a:Int)(b:aK):Bool:=decide (Fo h r a b<0)
def Pf(h:Int)(r:aK)(b:Int)(c:aK)(w:aB):Calls prog 92 #[aE (aN h r),aE (aN b c)] w (RG w (.bool (F6 h r b c))):=by
 obtain⟨n,k⟩:=ex w.heap.size;obtain⟨d,i,l,z,B⟩:=gT k (aC (aN h r) 73) (aC (aN b c) 73)
 have D:Hid (∀W,Gr d W->CG 143 #[aR n 1 16 16,aR (n+1) 1 16 16] W (.int .i64 (oK r c))):=fun W C=>
  MU r.toList c.toList 16 n 1 16 (n+1) 1 16 W (by simp) (by simp) (aH rfl) ((Jx z).gr C) ((Jx B).gr C)
 obtain⟨o,p,s,t⟩:=zR z.out;obtain⟨u,v,x,y⟩:=zR B.out;have m:Hid (F6 h r b c=decide (j6 (iq h b) (oK r c)<0)):=rfl;generalize F6 h r b c=R at*
 generalize oK r c=E at*
 have I:=bG b c;have J:=h_ b c;replace i:=aA i;by_cases f:h<b
 .have j:R=true:=by rw[m.out];unfold j6 iq;rw[aG f];rfl
  subst j;go_in;go_wp2_with fail;try simp only[k]
  rw[i.out];refine ej (by kernel_rfl) (by kernel_rfl) ?_;repeat (go_big_quiet_step (fail))
  refine cX ?_;rintro _ ⟨q,rfl⟩;have g:=aA (l.trans (cK d q));generalize gw d q=V at*
  go_wp2_with fail;go_ret;exact⟨rfl,g⟩
 .have H:decide (h<b)=false:=eL f
  by_cases a:h=b
  .have j:R=decide (E<0):=by
    rw[m.out];subst a;simp[j6,iq]
   have F:(h==b)=true:=by simp[a]
   subst j;replace a:=aA a;go_in;go_wp2_with fail;try simp only[k]
   rw[i.out];refine ej (by kernel_rfl) (by kernel_rfl) ?_;repeat (go_big_quiet_step ((go_at_call 143;with_reducible exact eE (D.out _ (cK d _)))))
   refine cX ?_;rintro _ ⟨q,rfl⟩;have g:=aA (l.trans (cK d q));generalize gw d q=V at*
   go_wp2_with fail;go_ret;exact⟨rfl,g⟩
  .have j:R=false:=by
    have G:b<h:=by omega
    rw[m.out];simp[j6,iq,f,G]
   have F:(h==b)=false:=by simp[a]
   subst j;replace a:=aA a;go_in;go_wp2_with fail;try simp only[k]
   rw[i.out];refine ej (by kernel_rfl) (by kernel_rfl) ?_;repeat (go_big_quiet_step (fail))
   refine cX ?_;rintro _ ⟨q,rfl⟩;have g:=aA (l.trans (cK d q));generalize gw d q=V at*
   go_wp2_with fail;go_ret;exact⟨rfl,g⟩
def pq{w:aB}{b k n:Nat}(a:hasRow w (aD b k) n=true)(i m:Nat)(hi:i+m<=n):hasRow w (aD b (k+i)) m=true:=by
 rw[kr]at a|-
 intro j c;have:=a (i+j) (by omega);rw[fO]at this|-
 rwa[l8]
def pV{w:aB}{b k n:Nat}{cs:bF}(c:hasRow w (aD b k) n=true)(d:rowAt w (aD b k) n=cs)(i m:Nat)(hi:i+m<=n):rowAt w (aD b (k+i)) m=dD cs i m:=by
 rw[<-d];apply rD;intro j;unfold dD;rw[rowAt,fo,mi,kM];by_cases a:j<m
 .rw[aG a,qf a,rowAt,fo,qf (by omega),jm,jm,fO,fO,l8]
 .rw[aF a,kZ (by simp;omega)];rfl
def acA(l:List Rl)(x:Id)(v:Value)(w:aB)(F:bX w v 84 (l.map bK))(hl:l.length<=1000):Calls prog 47 #[v,aE (bC x)] w (RG w (.bool (jw l x))):=by
 obtain⟨a,C,rfl,R,r⟩:=id F;rw[cL]at R|-
 have M:=aA F;obtain⟨n,T⟩:=ex w.heap.size;obtain⟨H,D,z,G⟩:=gO T (aC (bC x) 25)
 have O:=cC x;generalize b:jw l x=J at*
 replace b:=aA b;go_in;go_wp2_with fail;try rw[D]
 replace D:=aA D
 go_loopw [5] (fun j wr=>∃k:Nat,k<=l.length/\j=.int .i64 k/\Hid (Gr H wr)/\Hid (∀i (h:i<l.length),i<k->(l[i].id==x)=false)) (fun j _=>l.length-(intOf j).toNat)
 .exact⟨0,bW _,rfl,Gr.refl H,fun i _ hi=>absurd hi (lZ _)⟩
 .
  obtain⟨k,hk,rfl,p,I⟩:=hrel;by_cases s:k<l.length
  .have L:Hid (∃g m,a=some (aD g m)/\∀V,Gr wr V->hasRow V (aD g (m+k*84)) 32=true/\rowAt V (aD g (m+k*84)) 32=bC l[k].id/\g<V.heap.size):=by
    obtain⟨N,o,P,-,r⟩:=bX.gr M.out (z.out.trans p.out);obtain⟨g,m,Q,u,u1,u2⟩:=r k (by rw[cL];exact s);obtain⟨rfl,-,rfl⟩:a=N/\l.length=(l.map bK).length/\C=o:=by simpa using P
    rw[ig]at u2;exact⟨g,m,Q,fun V t=>⟨pq ((t.hasRow u).trans u1) 0 32 (aH rfl),(pV ((t.hasRow u).trans u1) ((t.rowAt u).trans u2) 0 32 (aH rfl)).trans (gP _ _ _ (cC _)),dQ u t.size⟩⟩
   obtain⟨g,m,rfl,c⟩:=L.out;have q1:(k:Int)<(l.length:Int):=by omega
   have q2:=nn k
   obtain⟨X,Y,Z⟩:=c wr (Gr.refl wr);obtain⟨r0,r1,r2⟩:=dL 32 O ((p.out.block (aI G.out)).trans G.out)
   have f:Hid ((l[k].id==x)=false->∀i (h:i<l.length),i<k+1->(l[i].id==x)=false):=fun h i hi S=>by
    by_cases e:i=k
    .subst e;exact h
    .exact I i hi (by omega)
   have d:Hid ((l[k].id==x)=true->J=true):=fun h=>by
    rw[<-b.out];exact mD.2 ⟨l[k],kA s,h⟩
   generalize l[k].id=y at*
   generalize W:(y==x)=eb at*
   cases eb
   .have B:=aA (f rfl)
    go_wp2_with fail;refine ej (by kernel_rfl) (by kernel_rfl) ?_;repeat (go_big_quiet_step (fail))
    refine cX ?_;rintro _ ⟨q,rfl⟩;have K:=aA (p.trans (cK wr q));generalize gw wr q=V at*
    go_wp2_with fail;go_roundw
    .exact⟨k+1,by omega,by go_num,K,B⟩
    .simp[intOf];omega
   .have E:=d rfl
    subst E;go_wp2_with fail;refine ej (by kernel_rfl) (by kernel_rfl) ?_;repeat (go_big_quiet_step (fail))
    refine cX ?_;rintro _ ⟨q,rfl⟩;go_wp2_with fail;go_ret;exact⟨rfl,z.trans (p.trans (cK wr q))⟩
  .have q1:¬(k:Int)<(l.length:Int):=by omega
   have E:J=false:=by
    rw[<-b.out];unfold jw;rw[vI];intro y U;obtain⟨j,r,rfl⟩:=pD U;rw[I.out j r (by omega)];simp
   subst E;go_wp2_with fail;go_ret;exact⟨rfl,z.trans p⟩
structure yT(W:aB)(b o:Nat)(x:Rl):Prop where
 w0:hasRow W (aD b o) 84=true
 w1:rowAt W (aD b o) 84=bK x
 i0:hasRow W (aD b o) 32=true
 i1:rowAt W (aD b o) 32=bC x.id
 a0:hasRow W (aD b (o+32)) 16=true
 a1:rowAt W (aD b (o+32)) 16=bC x.at_.a
 n:W.cell? (aD b (o+48))=some (.int .i64 x.at_.n)
 p0:hasRow W (aD b (o+49)) 17=true
 p1:rowAt W (aD b (o+49)) 17=aN x.h x.r
 l:W.cell? (aD b (o+66))=some (.int .i64 x.leaf)
 q0:hasRow W (aD b (o+67)) 17=true
 q1:rowAt W (aD b (o+67)) 17=aN x.nh x.nr
def vA{W:aB}{b o:Nat}{x:Rl}(c:hasRow W (aD b o) 84=true)(d:rowAt W (aD b o) 84=bK x):yT W b o x:=by
 have e:=qh c d;refine⟨c,d,pq c 0 32 (aH rfl),(pV c d 0 32 (aH rfl)).trans ?_,pq c 32 16 (aH rfl),(pV c d 32 16 (aH rfl)).trans ?_,e 48 _ ?_,pq c 49 17 (aH rfl),(pV c d 49 17 (aH rfl)).trans ?_,e 66 _ ?_,pq c 67 17 (aH rfl),(pV c d 67 17 (aH rfl)).trans ?_⟩
 .unfold bK;exact gP _ _ _ (cC _)
 .unfold bK;rw[eQ (bC x.id) _ 32 16 32 (cC _) (aU _)]
  unfold ef;rw[fl];exact gP _ _ _ (aO _)
 .unfold bK ef;rw[eY (bC x.id) _ 48 32 (cC _) (aH rfl),fl,eY (bC x.at_.a) _ 16 16 (aO _) (aU _)];rfl
 .unfold bK;rw[eQ (bC x.id) _ 49 17 32 (cC _) (aH rfl),eQ (ef x.at_.a x.at_.n) _ 17 17 17 (pj _ _) (aU _),gP _ _ _ (bG _ _)]
 .unfold bK;rw[eY (bC x.id) _ 66 32 (cC _) (aH rfl),eY (ef x.at_.a x.at_.n) _ 34 17 (pj _ _) (aH rfl),eY (aN x.h x.r) _ 17 17 (bG _ _) (aU _)];rfl
 .unfold bK;rw[eQ (bC x.id) _ 67 17 32 (cC _) (aH rfl),eQ (ef x.at_.a x.at_.n) _ 35 17 17 (pj _ _) (aH rfl),eQ (aN x.h x.r) _ 18 17 17 (bG _ _) (aH rfl)]
  show dD (.int .i64 x.leaf::aN x.nh x.nr) 1 17=_;rw[mr _ _ _ _ (aH rfl),b_ _ _ (bG _ _)]
def od(a:aK)(n:Int)(p:Pk)(y:Rl):Bool:=decide (y.at_.a=a/\y.at_.n=n)&&decide (eW y=p)
def Nu(L:List Rl)(a:aK)(n:Int)(p:Pk):ed L a n p=L.filter (od a n p):=by
 unfold ed jC;rw[List.filter_filter];congr 1
 funext y
 unfold od;rw[Bool.and_comm]
def iC(L:List Rl)(a:aK)(n:Int)(p:Pk)(k:Nat)(b:Int):Prop:=
 (b= -1/\ed (L.take k) a n p=[])\/∃(j:Nat) (h:j<L.length),b=(j:Int)/\j<k/\ed (L.take k) a n p≠[]/\L[j]=least fZ ep (ed (L.take k) a n p)
def iC.zero(L:List Rl)(a:aK)(n:Int)(p:Pk):iC L a n p 0 (-1):=.inl ⟨rfl,rfl⟩
def Cq(L:List Rl)(a:aK)(n:Int)(p:Pk)(k:Nat)(h:k<L.length):ed (L.take (k+1)) a n p=ed (L.take k) a n p++(if od a n p L[k]=true then[L[k]]else[]):=by
 rw[Nu,Nu,eF h,Af];congr 1
 cases hs:od a n p L[k]
 .rw[aF (aH rfl),List.filter_cons_of_neg (by simp[hs])];rfl
 .rw[aG rfl,List.filter_cons_of_pos hs];rfl
def iC.skip{L:List Rl}{a:aK}{n:Int}{p:Pk}{k:Nat}{b:Int}(h:iC L a n p k b)(l:k<L.length)(m:od a n p L[k]=false):iC L a n p (k+1) b:=by
 have e:ed (L.take (k+1)) a n p=ed (L.take k) a n p:=by rw[Cq L a n p k l,m,aF (aH rfl),je]
 rcases h with⟨c,d⟩|⟨j,i,c,d,f,g⟩
 .exact .inl ⟨c,by rw[e];exact d⟩
 .exact .inr ⟨j,i,c,by omega,by rw[e];exact f,by rw[e];exact g⟩
def iC.first{L:List Rl}{a:aK}{n:Int}{p:Pk}{k:Nat}(h:iC L a n p k (-1))(b:k<L.length)(f:od a n p L[k]=true):iC L a n p (k+1) (k:Int):=by
 have e:ed (L.take (k+1)) a n p=ed (L.take k) a n p++[L[k]]:=by rw[Cq L a n p k b,f,aG rfl]
 rcases h with⟨_,d⟩|⟨j,_,c,_⟩
 .exact .inr ⟨k,b,rfl,xO _,by rw[e];simp,by rw[e,xz,aG d]⟩
 .exact absurd c (by omega)
def iC.next{L:List Rl}{a:aK}{n:Int}{p:Pk}{k j:Nat}(h:iC L a n p k (j:Int))(l:k<L.length)(q:j<L.length)(m:od a n p L[k]=true):iC L a n p (k+1) (if fZ L[k] L[j]<0 then(k:Int)else(j:Int)):=by
 have e:ed (L.take (k+1)) a n p=ed (L.take k) a n p++[L[k]]:=by rw[Cq L a n p k l,m,aG rfl]
 rcases h with⟨f,_⟩|⟨d,c,f,o,g,i⟩
 .exact absurd f (by omega)
 .obtain rfl:d=j:=by omega
  by_cases b:fZ L[k] L[d]<0
  .rw[aG b]
   refine .inr ⟨k,l,rfl,xO _,by rw[e];simp,?_⟩;rw[e,xz,aF g,<-i,aG b]
  .rw[aF b]
   refine .inr ⟨d,c,rfl,by omega,by rw[e];simp,?_⟩;rw[e,xz,aF g,<-i,aF b]
@[go_sem] def agP:dZ prog 76 =true:=by kernel_rfl
@[go_sem] def aeH:prog.cellsOf 76 =84:=by kernel_rfl
@[go_sem ↓ high] def aer (w:aB):Sem.run prog (zeroValue 76) w=.ok (aE (bK ep)) w:=by kernel_rfl
def Yy(h:Int)(r:cE)(a:Int)(b:cE)(w:aB):(Op.eqFields 9999 (aN h r).toArray (aN a b).toArray (prog.fieldsOf 73).toList).run prog w=.ok (h==a&&(r==b&&true)) w:=by
 simp only[Program.fieldsOf,underlying73];refine Ax (aH rfl) (Bi h r w) (Bi a b w) (Hr _ _ w) ?_;exact Ax (aH rfl) (A4 h r w) (A4 a b w) (LR _ _ w) rfl
def Xk(h:Int)(r:cE)(a:Int)(b:cE)(w:aB):Sem.run prog (Op.equalIn 10000 73 (aE (aN h r)) (aE (aN a b))) w=(Op.eqFields 9999 (aN h r).toArray (aN a b).toArray (prog.fieldsOf 73).toList).run prog w:=run_equalIn_struct w 9999 73 _ _ (by kernel_rfl) (by kernel_rfl)
@[go_sem ↓ high] def Cy (h:Int) (r:cE) (a:Int) (b:cE) (w:aB):Sem.run prog (Op.equalIn 10000 73 (aE (aN h r)) (aE (aN a b))) w=.ok (iN h r a b) w:=
 (Xk h r a b w).trans ((Yy h r a b w).trans (by rw[pW];rfl))
@[go_sem] def ago:prog.eqGuardType prog.depth 73 =false:=by kernel_rfl
def LF{W:aB}{b o:Nat}{x:Id}(a:hasRow W (aD b o) 32=true)(c:rowAt W (aD b o) 32=bC x)(e:b<W.heap.size):cS W b o x.toList:=
 ⟨e,fun j y d=>by
  refine qh a c j _ ?_;unfold bC;rw[fo,d];rfl⟩
def Ry(a:aK)(n h:Int)(r:aK)(y:Rl):od a n (h,r) y=((y.at_.a==a)&&(y.at_.n==n)&&iN y.h y.r h r):=by
 unfold od iN eW;rw[kE];simp[and_assoc]
def acM(L:List Rl)(v:Value)(a:aK)(n h:Int)(r:aK)(w:aB)(hv:bX w v 84 (L.map bK))(hl:L.length<=1000):Calls prog 93 #[v,aE (bC a),.int .i64 n,aE (aN h r)] w fun e w'=>(∃b:Int,e=.returned (.int .i64 b)/\iC L a n (h,r) L.length b)/\Gr w w':=by
 obtain⟨ad,ai,rfl,hc,hj⟩:=id hv;rw[cL]at hc|-
 have HV:=aA hv;obtain⟨B,hB⟩:=ex w.heap.size;obtain⟨U0,hU,HG,H0,H1⟩:=gT hB (aC (bC a) 22) (aC (aN h r) 73)
 have d1:=aO a;have d3:=bG h r
 have a4:Hid (∀k (hk:k<L.length),∃O o0,ad=some (aD O o0)/\∀V,Gr w V->yT V O (o0+k*84) L[k]/\O<V.heap.size):=fun k hk=>by
  obtain⟨a1,a7,I,-,hj⟩:=HV.out;obtain⟨O,o0,ha,hb,u1,u2⟩:=hj k (by rw[cL];exact hk);obtain⟨rfl,-,rfl⟩:ad=a1/\L.length=(L.map bK).length/\ai=a7:=by simpa using I
  rw[ig]at u2;exact⟨O,o0,ha,fun V hV=>⟨vA ((hV.hasRow hb).trans u1) ((hV.rowAt hb).trans u2),dQ hb hV.size⟩⟩
 have ag:=aA (Ry a n h r);have ah:=aA (fun(k:Nat) (z:Int) (q:iC L a n (h,r) k z) (hk:k<L.length) (hs:od a n (h,r) L[k]=false)=>q.skip hk hs);have ae:=aA (fun(k:Nat) (q:iC L a n (h,r) k (-1)) (hk:k<L.length) (hs:od a n (h,r) L[k]=true)=>q.first hk hs);have af:=aA (fun(k j:Nat) (q:iC L a n (h,r) k (j:Int)) (hk:k<L.length) (hj:j<L.length) (hs:od a n (h,r) L[k]=true)=>q.next hk hj hs);have HZ:=aA (iC.zero L a n (h,r));go_in;go_wp2_with fail;try simp only[hB]
 try rw[hU]
 replace hU:=aA hU;replace hB:=aA hB
 go_loopw [9,10] (fun b i wr=>∃(k:Nat) (z:Int),k<=L.length/\b=.int .i64 z/\i=.int .i64 (k:Int)/\Hid (iC L a n (h,r) k z)/\Hid (Gr U0 wr)) (fun _ i _=>L.length-(intOf i).toNat)
 .exact⟨0,-1,bW _,rfl,rfl,HZ,Gr.refl U0⟩
 .
  obtain⟨k,z,hk,rfl,rfl,d,hG⟩:=hrel;by_cases a2:k<L.length
  .have q1:(k:Int)<(L.length:Int):=by omega
   have q2:=nn k
   obtain⟨O,o0,rfl,a5⟩:=a4.out k a2;obtain⟨p1,p2,-,-,-,-,-,-,-,-,-,-⟩:=(a5 wr (HG.out.trans hG.out)).1;have l0:=fM ep;have l1:=fM L[k];have l2:=pQ L[k];have a3:=ag L[k];obtain⟨m,y⟩:=ex wr.heap.size;obtain⟨C,c,-,X1⟩:=gO y (aC (bK L[k]) 76)
   have F:Hid (Gr U0 C):=c▸hG.out.alloc _
   have E:=aA (fun q=>af k q);have g:=aA (ah k z d a2);have s:=aA (fun(e:z= -1)=>ae k (by rw[<-e];exact d) a2);have f:=vA (W:=C) (b:=m) (o:=0) (aP X1 0 84 (by rw[fM];decide)) ((bJ X1 0 84 (by rw[fM];decide)).trans (b_ _ _ (fM _)));obtain⟨I,e2,P,Q,R,S,T,U,X,t,u,x⟩:=f;simp only[fB]at R S T U X t u x;obtain⟨x0,x1,x2⟩:=dL 16 d1 ((F.out.block (aI H0.out)).trans H0.out);obtain⟨x3,x4,x5⟩:=dL 17 d3 ((F.out.block (aI H1.out)).trans H1.out);generalize L[k].at_.a=ya at*
   generalize L[k].at_.n=yn at*
   generalize ak:iN L[k].h L[k].r h r=pe at*
   have ab:=fun W=>Cy L[k].h L[k].r h r W;rw[ak]at ab;have aj:=aI X1
   cases c1:(ya==a)with
   |false=>
    have HS:Hid (iC L a n (h,r) (k+1) z):=g (by rw[a3];rw[c1];rfl);go_wp2_with fail;replace c:=aA c;replace y:=aA y;go_roundw
    .exact⟨k+1,z,by omega,rfl,by go_num,HS,F⟩
    .simp[intOf];omega
   |true=>
   cases c3:(yn==n)with
   |false=>
    have c4:(yn != n)=true:=by simp[bne,c3]
    have HS:Hid (iC L a n (h,r) (k+1) z):=g (by rw[a3];rw[c1,c3];rfl);go_wp2_with fail;replace c:=aA c;replace y:=aA y;go_roundw
    .exact⟨k+1,z,by omega,rfl,by go_num,HS,F⟩
    .simp[intOf];omega
   |true=>
   have c4:(yn != n)=false:=by simp[bne,c3]
   cases pe with
   |false=>
    have HS:Hid (iC L a n (h,r) (k+1) z):=g (by rw[a3];rw[c1,c3];rfl);go_wp2_with fail;replace c:=aA c;replace y:=aA y;go_roundw
    .exact⟨k+1,z,by omega,rfl,by go_num,HS,F⟩
    .simp[intOf];omega
   |true=>
    have ac:od a n (h,r) L[k]=true:=by rw[a3,c1,c3];rfl
    rcases id d.out with⟨hz,-⟩|⟨j,aa,hz,al,-,-⟩
    .have N:Hid (iC L a n (h,r) (k+1) (k:Int)):=s hz ac
     subst hz;have i0:decide ((-1:Int)<0)=true:=by decide
     go_wp2_with fail;replace c:=aA c;replace y:=aA y;refine ej (by kernel_rfl) (by kernel_rfl) ?_;repeat (go_big_quiet_step (fail))
     refine cX ?_;rintro _ ⟨q,rfl⟩;have M:=aA (F.trans (cK C q));generalize gw C q=V at*
     go_wp2_with fail;go_roundw
     .exact⟨k+1,(k:Int),by omega,rfl,by go_num,N,M⟩
     .simp[intOf];omega
    .subst hz
     have p:=E j d a2 aa ac;have i0:decide ((j:Int)<0)=false:=eL (by omega);have i1:(j:Int)<(L.length:Int):=by omega
     have i2:=nn j
     obtain⟨b1,o1,a8,H⟩:=a4.out j aa;obtain⟨rfl,rfl⟩:O=b1/\o0=o1:=by simpa using a8
     have G:=H C (HG.trans F);have y1:=G.1.i0;have y2:=G.1.i1;have y3:=G.1.l;have y4:=G.2
     have a6:Hid (∀W,Gr C W->CG 143 #[aR m 0 32 32,aR O (o0+j*84) 32 32] W (.int .i64 (oK L[k].id L[j].id))):=fun W hW=>
      MU L[k].id.toList L[j].id.toList 32 m 0 32 O (o0+j*84) 32 W (by simp) (by simp) (aH rfl) ((LF P Q aj).gr hW) ((LF y1 y2 y4).gr hW)
     have a9:fZ L[k] L[j]=j6 (iq L[k].leaf L[j].leaf) (oK L[k].id L[j].id):=rfl;rw[a9]at p;generalize oK L[k].id L[j].id=cb at*
     generalize L[k].leaf=J at*
     generalize L[j].leaf=K at*
     by_cases Z:J<K
     .have N:Hid (iC L a n (h,r) (k+1) (k:Int)):=by
       rw[show j6 (iq J K) cb= -1 from by simp[j6,iq,Z],aG (aH rfl)]at p;exact p
      have i3:decide (J<K)=true:=fm Z;go_wp2_with fail;replace c:=aA c;replace y:=aA y;refine ej (by kernel_rfl) (by kernel_rfl) ?_;repeat (go_big_quiet_step (fail))
      refine cX ?_;rintro _ ⟨q,rfl⟩;have M:=aA (F.trans (cK C q));generalize gw C q=V at*
      go_wp2_with fail;go_roundw
      .exact⟨k+1,(k:Int),by omega,rfl,by go_num,N,M⟩
      .simp[intOf];omega
     .have i3:decide (J<K)=false:=eL Z
      by_cases D:J=K
      .have i4:(J==K)=true:=by simp[D]
       rw[show j6 (iq J K) cb=cb from by subst D;simp[j6,iq]]at p;replace D:=aA D;by_cases Y:cb<0
       .have N:Hid (iC L a n (h,r) (k+1) (k:Int)):=by rw[aG Y]at p;exact p
        have i5:decide (cb<0)=true:=fm Y;go_wp2_with fail;replace c:=aA c;replace y:=aA y;refine ej (by kernel_rfl) (by kernel_rfl) ?_;repeat (go_big_quiet_step ((go_at_call 143;with_reducible exact eE (a6.out _ (cK C _)))))
        refine cX ?_;rintro _ ⟨q,rfl⟩;have M:=aA (F.trans (cK C q));generalize gw C q=V at*
        go_wp2_with fail;go_roundw
        .exact⟨k+1,(k:Int),by omega,rfl,by go_num,N,M⟩
        .simp[intOf];omega
       .have N:Hid (iC L a n (h,r) (k+1) (j:Int)):=by rw[aF Y]at p;exact p
        have i5:decide (cb<0)=false:=eL Y;go_wp2_with fail;replace c:=aA c;replace y:=aA y;refine ej (by kernel_rfl) (by kernel_rfl) ?_;repeat (go_big_quiet_step ((go_at_call 143;with_reducible exact eE (a6.out _ (cK C _)))))
        refine cX ?_;rintro _ ⟨q,rfl⟩;have M:=aA (F.trans (cK C q));generalize gw C q=V at*
        go_wp2_with fail;go_roundw
        .exact⟨k+1,(j:Int),by omega,rfl,by go_num,N,M⟩
        .simp[intOf];omega
      .have i4:(J==K)=false:=by simp[D]
       have h2:K<J:=by omega
       have N:Hid (iC L a n (h,r) (k+1) (j:Int)):=by
        rw[show j6 (iq J K) cb=1 from by simp[j6,iq,Z,h2],aF (aH rfl)]at p;exact p
       replace D:=aA D;go_wp2_with fail;replace c:=aA c;replace y:=aA y;refine ej (by kernel_rfl) (by kernel_rfl) ?_;repeat (go_big_quiet_step (fail))
       refine cX ?_;rintro _ ⟨q,rfl⟩;have M:=aA (F.trans (cK C q));generalize gw C q=V at*
       go_wp2_with fail;go_roundw
       .exact⟨k+1,(j:Int),by omega,rfl,by go_num,N,M⟩
       .simp[intOf];omega
  .obtain rfl:k=L.length:=by omega
   have q1:¬(L.length:Int)<(L.length:Int):=by omega
   go_wp2_with fail;go_ret;exact⟨⟨z,rfl,d⟩,HG.trans hG⟩
def iz(L:List Rl)(a:aK)(k:Nat):Pk:=least jr mE ((jC (L.take k) a 0).map eW)
def o5(L:List Rl)(a:aK)(k:Nat):Bool:=!(jC (L.take k) a 0).isEmpty
def Xa(L:List Rl)(a:aK)(k:Nat)(h:k<L.length)(b:¬(L[k].at_.a=a/\L[k].at_.n=0)):iz L a (k+1)=iz L a k/\o5 L a (k+1)=o5 L a k:=by
 unfold iz o5;rw[Jg L a 0 k h,aF b,je];exact⟨rfl,rfl⟩
def Ot(L:List Rl)(a:aK)(k:Nat)(h:k<L.length)(b:L[k].at_.a=a/\L[k].at_.n=0):
  o5 L a (k+1)=true/\iz L a (k+1)=if o5 L a k=false then eW L[k]else if jr (eW L[k]) (iz L a k)<0 then eW L[k]else iz L a k:=by
 unfold iz o5;rw[Jg L a 0 k h,aG b,gD];constructor
 .cases jC (L.take k) a 0<;>rfl
 .show least jr mE (_++[eW L[k]])=_
  rw[xz]
  cases hm:jC (L.take k) a 0 with
  |nil=>rfl
  |cons x l=>rfl
end Go.Proofs.YtjfaogajmoffoaaGreatDoor
