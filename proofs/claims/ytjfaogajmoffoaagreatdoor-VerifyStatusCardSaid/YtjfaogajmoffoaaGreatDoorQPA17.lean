/- Lemmas for VerifyStatus. -/
import Derived.Test.YtjfaogajmoffoaaGreatDoorQPA16
set_option maxRecDepth 100000
set_option maxHeartbeats 16000000
set_option linter.all false
namespace Go.Proofs.YtjfaogajmoffoaaGreatDoor
open Go.RowKit Tryz
def Ay(c:bU):(aX c)[56]? =some (.int .i64 c.height):=by
 unfold aX;show(bC c.author++_)[55]? =_
 rw[eY (bC c.author) _ 55 16 (aO _) (aH rfl)];show(bC c.sup++_)[35]? =_
 rw[eY (bC c.sup) _ 35 32 (cC _) (aH rfl)];rfl
def E7(e:Int)(s:aJ)(m:Int)(h:e≠0):kF e s m=e:=by unfold kF cQ;simp[h]
def dT(e:Int)(b:Bool)(x:Int)(h:e≠0):cQ e b x=e:=by unfold cQ;simp[h]
def qy(x:Int):cQ 0 true x=x:=by unfold cQ;simp
def uN(e:Int)(x:Int):cQ e false x=e:=by unfold cQ;simp
def yo(e:Int)(c:bU)(h:e≠0):lC e c=e:=by
 unfold lC;split
 .rfl
 .rw[dT _ _ _ h,dT _ _ _ h,dT _ _ _ h]
def vz(e:Int)(s:aJ)(h:e≠0):oZ e s=e:=by unfold oZ;rw[dT _ _ _ h,dT _ _ _ h]
def O_(s:aJ):oZ 0 s=sU s:=by
 unfold oZ sU;by_cases h:20<s.size
 .rw[fm h,qy,aG h];exact dT _ _ _ (aH rfl)
 .rw[eL h,uN,aF h]
  cases hb:(bl s).any jh
  .rw[uN,aF (aH rfl)]
  .rw[qy,aG rfl]
def zx(a:Int)(d:Bool)(b c e f g:Int)(k:Bool)(i:Int)(j l:Bool)(h:Int):Int:=
 if a≠0 then a else if d=true then 13 else if b≠0 then b else if c≠0 then c else if e≠0 then e else if f≠0 then f else if g≠0 then g else
 if(k||(i != 0)||j)=true then 2 else if l=true then 5 else h
def Wf(k:bU)(j:bP)(rs:List Id):fc k j rs=zx (pK k.name 60) (mG k) (kG j) (pK k.subject 200) (gq rs) (lC 0 k) (sU k.dist) (o8 k) (cH k.height) (oL k) (decide (57344<k.body.size)) (o3 k.body):=by
 unfold fc zx;rw[NE,NE,<-O_];by_cases c:kF 0 k.name 60=0
 case neg=>
  rw[aG c];have h:=c;rw[dT _ _ _ h,dT _ _ _ h,E7 _ _ _ h,dT _ _ _ h,yo _ _ h,vz _ _ h,dT _ _ _ h,dT _ _ _ h,dT _ _ _ h,dT _ _ _ h,dT _ _ _ h]
 rw[aF (by simpa using c),c]
 cases hd:mG k with
 |true=>
  rw[qy,aG rfl];have h:(13:Int)≠0:=by decide
  rw[dT _ _ _ h,E7 _ _ _ h,dT _ _ _ h,yo _ _ h,vz _ _ h,dT _ _ _ h,dT _ _ _ h,dT _ _ _ h,dT _ _ _ h,dT _ _ _ h]
 |false=>
 rw[uN,aF (aH rfl),qy];by_cases d:kG j=0
 case neg=>
  rw[aG d];have h:=d;rw[E7 _ _ _ h,dT _ _ _ h,yo _ _ h,vz _ _ h,dT _ _ _ h,dT _ _ _ h,dT _ _ _ h,dT _ _ _ h,dT _ _ _ h]
 rw[aF (by simpa using d),d];by_cases e:kF 0 k.subject 200=0
 case neg=>
  rw[aG e];have h:=e;rw[dT _ _ _ h,yo _ _ h,vz _ _ h,dT _ _ _ h,dT _ _ _ h,dT _ _ _ h,dT _ _ _ h,dT _ _ _ h]
 rw[aF (by simpa using e),e,qy];by_cases f:gq rs=0
 case neg=>
  rw[aG f];have h:=f;rw[yo _ _ h,vz _ _ h,dT _ _ _ h,dT _ _ _ h,dT _ _ _ h,dT _ _ _ h,dT _ _ _ h]
 rw[aF (by simpa using f),f];by_cases g:lC 0 k=0
 case neg=>
  rw[aG g];have h:=g;rw[vz _ _ h,dT _ _ _ h,dT _ _ _ h,dT _ _ _ h,dT _ _ _ h,dT _ _ _ h]
 rw[aF (by simpa using g),g];by_cases i:oZ 0 k.dist=0
 case neg=>
  rw[aG i];have h:=i;rw[dT _ _ _ h,dT _ _ _ h,dT _ _ _ h,dT _ _ _ h,dT _ _ _ h]
 rw[aF (by simpa using i),i];have a:(2:Int)≠0:=by decide
 have b:cH k.height=0\/cH k.height=2:=by
  unfold cH;split
  .exact .inr rfl
  .exact .inl rfl
 generalize o8 k=nr;generalize oL k=lf;generalize decide (57344<k.body.size)=sz;generalize o3 k.body=l
 cases nr
 .rw[uN,qy]
  rcases b with b|b
  .rw[b]
   cases lf
   .rw[uN]
    cases sz
    .rw[uN,qy];rfl
    .rw[qy,dT _ _ _ (aH rfl)];rfl
   .rw[qy,dT _ _ _ a,dT _ _ _ a];rfl
  .rw[b,dT _ _ _ a,dT _ _ _ a,dT _ _ _ a];rfl
 .rw[qy,dT _ _ _ a,dT _ _ _ a,dT _ _ _ a,dT _ _ _ a];rfl
def Sb(k:bU)(J:bP)(rs:List Id)(w:aB)(K:Sm k J)(hC:fF w k J rs)(P:rs.length<=1000):
  Calls prog 41 #[aE (aX k)] w (RG w (.int .i64 (fc k J rs))):=by
 obtain⟨n,hn⟩:=ex w.heap.size;have a1:=hC.one;have a5:=dO k;obtain⟨I,hU,T,S⟩:=gO hn (aC (aX k) 28)
 have HF:Hid (∀V,Gr I V->nS V n k):=fun V F=>sF ((F.block (aI S)).trans S);obtain⟨⟨-,ga,gc,H,-⟩,⟨ra,rc,f,-⟩⟩:=id hC;have N:Hid (∀V,Gr I V->V.cell? (aD n 56)=some (.int .i64 k.height)):=fun V F=>(bH ((F.block (aI S)).trans S) 56).trans (Ay k);have HC:Hid (∀V,Gr I V->fF V k J rs):=fun V F=>hC.gr (T.trans F);have T1:Hid (∀V,CG 72 #[.string k.name,.int .i64 60] V (.int .i64 (pK k.name 60))):=fun V=>Nr k.name 60 V K.n;have T2:Hid (∀V,Calls prog 73 #[.int .i64 k.date] V fun e w'=>e=.returned (.bool (!mG k))/\V=w'):=fun V=>aam k V;have T3:Hid (∀V,Gr I V->CG 74 #[k.groups] V (.int .i64 (kG J))):=fun V F=>QQ J k.groups V (HC V F).g K.g;have T4:Hid (∀V,CG 72 #[.string k.subject,.int .i64 200] V (.int .i64 (pK k.subject 200))):=fun V=>Nr k.subject 200 V K.s;have T5:Hid (∀V,Gr I V->Calls prog 76 #[k.refs] V fun e w'=>∃v',e=.returned v'/\nX w' v' rs/\Gr V w'):=fun V F=>Ng rs k.refs V (HC V F).r P;have T6:Hid (∀v V,nX V v rs->CG 75 #[v] V (.int .i64 (gq rs))):=fun v V j=>MW rs v V j P;have T7:Hid (∀V,CG 77 #[aE (aX k)] V (.int .i64 (lC 0 k))):=fun V=>Yd k V a1 K.c;have T8:Hid (∀V,Calls prog 78 #[.string k.dist] V fun e w'=>e=.returned (.int .i64 (sU k.dist))/\V=w'):=fun V=>UA k.dist V;have T9:Hid (∀V,Calls prog 79 #[.string k.body] V (BV (o3 k.body) V)):=fun V=>aa6 k.body V K.b;have o:Hid (o8 k=(decide (k.number<0)||decide (1000<k.number))):=rfl;have l:Hid (cH k.height=if k.height<1\/8<k.height then 2 else 0):=rfl;have m:Hid (oL k=(decide (k.leaf<0)||decide ((if cH k.height=0 then(2:Int)^k.height.toNat else 0)<=k.leaf))):=rfl;have a3:Hid (k.body.size<=1000000):=K.b;rw[Wf];replace hU:=aA hU;obtain⟨U,X,Y,Z,L,f6,M,f8,f9,p,t,u,x,y,z,B,C,D,E⟩:=HF.out I (Gr.refl _);rw[cL]at f;rw[H]at T3 L;rw[f]at T5 M;replace H:=aA H;replace f:=aA f;generalize pK k.name 60=e1 at*
 generalize mG k=d at*
 generalize kG J=e2 at*
 generalize pK k.subject 200=e3 at*
 generalize gq rs=e4 at*
 generalize lC 0 k=e5 at*
 generalize sU k.dist=e6 at*
 generalize o8 k=nr at*
 generalize cH k.height=he at*
 generalize oL k=lf at*
 generalize o3 k.body=e7 at*
 obtain⟨R,hR⟩:=ex (zx e1 d e2 e3 e4 e5 e6 nr he lf (decide (57344<k.body.size)) e7);rw[hR];unfold zx at hR;replace hR:=aA hR;clear hC K;have G:=aA (Gr.refl I);go_in;go_wp2_with fail;try simp only[hn]
 rw[hU.out];iterate 7
  clear U X Y Z L f6 M f8 f9 p t u x y z B C D E;first
  |(with_reducible refine dK (T2.out _) ?_)
  |(with_reducible refine dK (T8.out _) ?_)
  |(first
    |with_reducible refine(T1.out _).mono ?_
    |with_reducible refine(T3.out _ G.out).mono ?_
    |with_reducible refine(T4.out _).mono ?_
    |with_reducible refine(T7.out _).mono ?_
    |(with_reducible refine(T5.out _ G.out).mono ?_
      rintro _ W ⟨v',rfl,Q,g⟩;replace G:=aA (G.trans g);clear g;go_wp2_with fail
      with_reducible refine(T6.out _ _ Q).mono ?_
      clear Q)
    rintro _ W ⟨rfl,g⟩;replace G:=aA (G.trans g);clear g)
  obtain⟨U,X,Y,Z,L,f6,M,f8,f9,p,t,u,x,y,z,B,C,D,E⟩:=HF.out _ G.out;rw[H.out]at L;rw[f.out]at M;rcases Wp hR.out with⟨q,h⟩|⟨q,h⟩
  .subst h
   first
   |(have b1:=dI.2 q
     have b2:=qp.2 q;replace q:=aA q)
   |subst q
   go_wp2_with fail;go_ret;exact⟨rfl,T.trans G⟩
  replace hR:=aA h;clear h;first
  |obtain rfl:=Decidable.of_not_not q
  |obtain rfl:=ui.2 q
  clear q;go_wp2_with fail
 have fh:=N _ G;by_cases n0:k.number<0
 focus
  have j:R=2:=by rw[<-hR.out,o.out,fm n0];rfl
 rotate_left;by_cases n1:1000<k.number
 focus
  have j:R=2:=by rw[<-hR.out,o.out,fm n1,Bool.or_true];rfl
 rotate_left;by_cases n2:k.height<1
 focus
  have a:(he != 0)=true:=by rw[l.out,aG (.inl n2)];rfl
  have j:R=2:=by rw[<-hR.out,aG (by rw[a];simp)]
 rotate_left;by_cases n3:8<k.height
 focus
  have a:(he != 0)=true:=by rw[l.out,aG (.inr n3)];rfl
  have j:R=2:=by rw[<-hR.out,aG (by rw[a];simp)]
 rotate_left;have O:nr=false:=by rw[o.out,eL n0,eL n1];rfl
 have a:he=0:=by rw[l.out,aF (by omega)]
 by_cases n4:k.leaf<0
 focus
  have j:R=2:=by rw[<-hR.out,m.out,fm n4];simp
 rotate_left
 focus
  rw[a,aG rfl,eL n4,Bool.false_or]at m;rw[O,a]at hR;have a2:k.height=1\/k.height=2\/k.height=3\/k.height=4\/k.height=5\/k.height=6\/k.height=7\/k.height=8:=by omega
  clear o l O a n2 n3;generalize k.height=a4 at*
  rcases a2 with rfl|rfl|rfl|rfl|rfl|rfl|rfl|rfl
  all_goals
   cases lf
   focus
    have n5:=tm m.symm;simp only[Int.reduceToNat,Int.reducePow]at n5;by_cases n6:57344<k.body.size
    focus
     have j:R=5:=by rw[<-hR.out,aF (aH rfl),aG (fm n6)]
     have i1:(57344:Int)<(k.body.size:Int):=by omega
    rotate_left
    focus
     have j:R=e7:=by rw[<-hR.out,aF (aH rfl),aF (by rw[eL n6];decide)]
     have i1:¬(57344:Int)<(k.body.size:Int):=by omega
   rotate_left 2
   focus
    have n5:=oG m.symm;simp only[Int.reduceToNat,Int.reducePow]at n5;have j:R=2:=by rw[<-hR.out,aG (aH rfl)]
 all_goals
  subst j;refine ej (by kernel_rfl) (by kernel_rfl) ?_;repeat (go_big_quiet_step (fail))
  refine cX ?_;rintro _ ⟨q,rfl⟩;have g:=cK W q;replace G:=aA (G.trans g);clear g fh U X Y Z L f6 M f8 f9 p t u x y z B C D E;have fh:=N _ G;obtain⟨U,X,Y,Z,L,f6,M,f8,f9,p,t,u,x,y,z,B,C,D,E⟩:=HF.out _ G.out;generalize gw W q=W at*
  go_wp2_with fail;first
  |(go_ret
    exact⟨rfl,T.trans G⟩)
  |(refine(T9 _).mono ?_
    rintro _ V ⟨⟨i,rfl⟩,g⟩;go_wp2_with fail;go_ret;exact⟨rfl,T.trans (G.trans g)⟩)
def yx{W:aB}{g:Nat}(m:Int)(c:UInt8)(b:m=(c.toNat:Int))(h:W.heap[g]? =some (.cells #[.int .u8 m] 5)):(convert 94 9 (aR g 0 1 1)).run prog W=.ok (.string (bs [c])) W:=by
 refine cS.str (l:=[c]) ⟨aI h,fun j x a=>?_⟩ 1 rfl
 cases j with
 |zero=>
  obtain rfl:c=x:=by simpa using a
  rw[b]at h;exact bH (cs:=[.int .u8 (c.toNat:Int)]) h 0
 |succ j=>simp at a
def L2(n:Nat)(h:n<10)(w:aB):Calls prog 140 #[.int .u64 (n:Int)] w (RG w (.string (bs (Lib.decDigits n)))):=by
 have f:(n:Int)<10:=by omega
 have i:IntKind.u64.wrap (48+(n:Int))=48+(n:Int):=by rw[ye];omega
 have j:IntKind.u8.wrap (48+(n:Int))=48+(n:Int):=by rw[gg];omega
 have b:48+(n:Int)=((UInt8.ofNat (48+n)).toNat:Int):=by rw[p9];omega
 have a:Lib.decDigits n=[UInt8.ofNat (48+n)]:=Dn h;generalize UInt8.ofNat (48+n)=c at*
 rw[a];have d:∀W:aB,(convert 94 9 (aR (W.heap.size) 0 1 1)).run prog (W.alloc (.cells #[.int .u8 (48+(n:Int))] 5))=.ok (.string (bs [c])) (W.alloc (.cells #[.int .u8 (48+(n:Int))] 5)):=fun W=>yx (g:=W.heap.size) _ _ b (aY _ _ _ rfl);replace b:=aA b;go_in;go_wp2_with fail;go_ret;exact⟨rfl,(Gr.refl w).alloc _⟩
def YX:∀(N n:Nat),n<=N->n<18446744073709551616->∀w:aB,Calls prog 140 #[.int .u64 (n:Int)] w (RG w (.string (bs (Lib.decDigits n)))):=by
 intro N
 induction N with
 |zero=>intro n hn _ w;exact L2 n (by omega) w
 |succ N ih=>
  intro n hn h9 w;by_cases h:n<10
  .exact L2 n h w
  .have HD:Hid (∀W,CG 140 #[.int .u64 ((n/10:Nat):Int)] W (.string (bs (Lib.decDigits (n/10))))):=fun W=>ih (n/10) (by omega) (by omega) W
   have i1:¬(n:Int)<10:=by omega
   have HB:=aA (show bs (Lib.decDigits (n/10))++bs [UInt8.ofNat (48+n%10)]=bs (Lib.decDigits n) by rw[iY,<-FA h])
   have hsz:(bs (Lib.decDigits (n/10))).size<=20:=by show(Lib.decDigits (n/10)).toArray.size<=20;rw[List.size_toArray];exact OQ 19 _ (by omega)
   obtain⟨q,hq,hqn⟩:∃q:Nat,(n:Int)/10=(q:Int)/\n/10=q:=⟨n/10,by omega,rfl⟩;obtain⟨r,hr,hrn,hr10⟩:∃r:Nat,(n:Int)%10=(r:Int)/\n%10=r/\r<10:=⟨n%10,by omega,rfl,by omega⟩;rw[hqn]at HD HB hsz;rw[hrn]at HB;have hm:48+(r:Int)=((UInt8.ofNat (48+r)).toNat:Int):=by rw[UInt8.toNat_ofNat'];omega
   have z1:(bs [UInt8.ofNat (48+r)]).size=1:=rfl;generalize UInt8.ofNat (48+r)=c at*
   generalize bs (Lib.decDigits q)=s at*
   have v1:IntKind.u64.wrap (48+(r:Int))=48+(r:Int):=by rw[IntKind.wrap_u64];omega
   have v2:IntKind.u8.wrap (48+(r:Int))=48+(r:Int):=by rw[IntKind.wrap_u8];omega
   have n1:¬9223372036854775807<s.size+1:=by omega
   have hrt:(n:Int).tmod 10=(r:Int):=by rw[Int.tmod_eq_emod_of_nonneg (by omega)];exact hr
   have hqt:(n:Int).tdiv 10=(q:Int):=by rw[Int.tdiv_eq_ediv_of_nonneg (by omega)];exact hq
   have w0:IntKind.u64.wrap (q:Int)=(q:Int):=by rw[IntKind.wrap_u64];omega
   have HM:=Lib.hid hm;have hcv:∀W:aB,(convert 94 9 (aR (W.heap.size) 0 1 1)).run prog (W.alloc (.cells #[.int .u8 (48+(r:Int))] 5))=.ok (.string (bs [c])) (W.alloc (.cells #[.int .u8 (48+(r:Int))] 5)):=fun W=>yx (g:=W.heap.size) _ _ hm (aY _ _ _ rfl);have hcv2:(convert 94 9 (aR (w.heap.size) 0 1 1)).run prog (w.alloc (.cells #[.int .u8 (48+(r:Int))] 5)).drew=.ok (.string (bs [c])) (w.alloc (.cells #[.int .u8 (48+(r:Int))] 5)).drew:=yx (g:=w.heap.size) _ _ hm (aY _ _ _ rfl);have hcv3:(convert 94 9 (aR (w.heap.size) 0 1 1)).run prog (w.drew.alloc (.cells #[.int .u8 (48+(r:Int))] 5))=.ok (.string (bs [c])) (w.drew.alloc (.cells #[.int .u8 (48+(r:Int))] 5)):=yx (g:=w.heap.size) _ _ hm (aY _ _ _ rfl);clear hqn hrn ih hn hm;go_in;go_wp2_with fail
   go_region_held_law (fun _=>True) (trivial)
    (first|(go_at_call 140;with_reducible refine bA (HD.out _) fun w1 hg1=>?_;try (have hc1:(convert 94 9 (aR (w.heap.size) 0 1 1)).run prog w1=.ok (.string (bs [c])) w1:=yx _ _ HM.out ((hg1.block (aI (aY _ _ _ rfl))).trans (aY _ _ _ rfl)))))
   all_goals
    go_wp2_with fail;go_ret;refine⟨by rw[<-HB.out];rfl,?_⟩;first
    |exact((Gr.refl w).drew.trans hg1).alloc _
    |exact((Gr.refl w).alloc _).drew.trans hg1
    |exact((Gr.refl w).drew.alloc _).trans hg1
def CN(m:Int)(h:0<=m)(i:m<=1000000000000)(w:aB):Calls prog 88 #[.int .i64 m] w (RG w (.string (gu m))):=by
 have d:¬m<0:=by omega
 have a:Hid (gu m=bs (Lib.decDigits m.toNat)):=by
  show _=_;unfold gu Lib.itoa;rw[aF d]
 have c:=aA (YX m.toNat m.toNat (aU _) (by omega));obtain⟨q,f⟩:∃q:Nat,m.toNat=q:=⟨_,rfl⟩;have b:m=(q:Int):=by omega
 rw[f]at a c;rw[a.out];subst b;have j:IntKind.u64.wrap (q:Int)=(q:Int):=by rw[ye];omega
 go_in;go_wp2_with fail;refine bA (c _) fun k g=>?_;go_wp2_with fail;go_ret;exact⟨rfl,g⟩
def acD(w:aB){c:Array Oper}{rest:List Oper}{o:Oper}{a:Act}{Q:Exit->Act->aB->Prop}(f:o.guard=none)(s x:Operand)
  (p:o.op=.call { callee:=.builtin .append,args:=#[s,x],argTypes:=#[94,94] }) (base:Nat) (v:Value) (xs:aM) (hs:a.eval s=v) (hown:aZ w base v xs)
  (sv:Value) (ys:aM) (hx:a.eval x=sv) (hsl:bX w sv 1 (iV ys)) (n:Nat) (hn:xs.length+ys.length=n) (h63:n<=1000000) (hbase:base<=w.heap.size)
  (h:∀d e w',aZ w' base (.slice d n e) (xs++ys)->w.grownBy w' v.ownBlock->wpList prog c Q rest (a.put o.dst (.slice d n e)) w'):
  wpList prog c Q (o::rest) a w:=by
 subst hn;obtain⟨i,z,g,j,k,l,m⟩:=sr;refine tU w f s x 94 p base 5 i z 1 1 underlying94 g j k l m (aH rfl) v xs.length (xs.map cU) hs hown sv (iV ys) hx hsl (uP _) (xx _) (by rw[kK];exact h63) (aH rfl) hbase ?_;intro d e w' b hg _;rw[uT,kK]at b;rw[kK];refine h d e w' ?_ hg;unfold aZ;rw[gD,bV];exact b
def MN(h:Int)(r:cE)(w:aB)(z:1<=h)(B:h<=8):Calls prog 138 #[.int .i64 h,aE (bC r)] w fun e w'=>∃v,e=.returned v/\aZ w' w.heap.size v (gv h r)/\Gr w w':=by
 have m:=cM w (aC (bC r) 22);have j:=(Gr.refl w).alloc (aC (bC r) 22);have a:Hid (cS (w.alloc (aC (bC r) 22)) w.heap.size 0 r.toList):=cS.vec m
 have p:=aA j;obtain⟨n,t⟩:∃n:Nat,h=(n:Int):=⟨h.toNat,by omega⟩;subst t;have C:IntKind.u8.wrap (n:Int)=(n:Int):=by rw[gg];omega
 have u:(n:Int)%256=(n:Int):=by omega
 have i:cU (UInt8.ofNat n)=.int .u8 (n:Int):=by unfold cU;simp;omega
 have o:=aA i;have c:Hid ([UInt8.ofNat n]++r.toList=gv (n:Int) r):=rfl;have q:Hid (aZ ((w.alloc (aC (bC r) 22)).alloc (.cells #[.int .u8 (n:Int)] 5)) w.heap.size (aR (w.heap.size+1) 0 1 1) [UInt8.ofNat n]):=by
  rw[<-o.out];have:=aZ.made (w:=(w.alloc (aC (bC r) 22)).alloc (aC ([UInt8.ofNat n].map cU) 5)) (base:=w.heap.size) (l:=[UInt8.ofNat n]) (b:=w.heap.size+1) (lh w _ _) (by omega) (by simp);exact this
 have d:=aA ((a.gr ((Gr.refl _).alloc (.cells #[.int .u8 (n:Int)] 5))).sl 16 16 (by simp) (aU _));have s:=aA (show w.heap.size<=((w.alloc (aC (bC r) 22)).alloc (.cells #[.int .u8 (n:Int)] 5)).heap.size by simp;omega)
 go_in;go_wp2_with (refine acD _ rfl _ _ rfl w.heap.size (aR (w.heap.size+1) 0 1 1) [UInt8.ofNat n] (by simp[Act.eval]) q (aR (w.heap.size) 0 16 16) r.toList (by simp[Act.eval]) d 17 (by simp) (aH rfl) s ?_;intro x y D g f);go_ret;exact⟨_,rfl,by rw[<-c.out];exact g,((p.alloc _).grown f (fun k hk=>by cases hk;exact sK _))⟩
def XU(i:Id)(w:aB):Calls prog 90 #[aE (bC i)] w (RG w (.string (nl i))):=by
 obtain⟨n,h⟩:=ex w.heap.size;have c:Hid (HB (w.alloc (aC (bC i) 26)) n (bC i) 26):=aY _ _ _ h.symm
 have a:Hid (Gr w (w.alloc (aC (bC i) 26))):=(Gr.refl w).alloc _;have d:=aA (SM i);obtain⟨j,k,l⟩:=dL 32 (cC i) c.out;have g:=Jy i bM;have b:nl i=if(i==bM)=true then⟨#[]⟩else bs (ic i):=rfl
 rw[b];generalize(i==bM)=zb at*
 generalize bs (ic i)=s at*
 cases zb
 .rw[aF (aH rfl)]
  go_in;go_wp2_with fail;refine bA (d _) fun m f=>?_;go_wp2_with fail;go_ret;exact⟨rfl,a.trans f⟩
 .rw[aG rfl]
  go_in;go_wp2_with fail;go_ret;exact⟨rfl,a⟩
def qh{w:aB}{b o n:Nat}{cs:bF}(d:hasRow w (aD b o) n=true)(a:rowAt w (aD b o) n=cs):w.rangeAt b o cs:=fun j v c=>by
 have f:cs.length=n:=by rw[<-a];simp[rowAt]
 have e:=(nG.1 c).1;exact(Fp d a j (by omega)).trans c
def VR{w:aB}{b:Nat}{c:bU}(h:nS w b c):w.rangeAt b 57 (bC c.root):=fun j v a=>by
 have:=qh h.pu0 h.pu1 (j+1) v (by rw[show aN c.height c.root=.int .i64 c.height::bC c.root from rfl,xt];exact a);rwa[show 56+(j+1)=57+j by omega]at this
def abY(k:bU)(w:aB)(U:cN (aX k)=true)(x:0<=k.number)(N:k.number<=1000)(hh:cH k.height=0):
  Calls prog 91 #[aE (aX k)] w (RG w (.string (lT k))):=by
 obtain⟨n,G⟩:=ex w.heap.size;obtain⟨B,m,I,z⟩:=gO G (aC (aX k) 28)
 have a:1<=k.height/\k.height<=8:=by
  unfold cH at hh;by_cases q:k.height<1\/8<k.height
  .rw[aG q]at hh;cases hh
  .omega
 have J:Hid (gu k.number++⟨#[32]⟩++bs (mO k.height k.root)=lT k):=by
  show _=_;unfold lT nf;rw[aG hh]
 have i:Hid (∀V,Gr B V->V.cell? (aD n 55)=some (.int .i64 k.number)/\V.cell? (aD n 56)=some (.int .i64 k.height)/\V.rangeAt n 57 (bC k.root)):=fun V K=>by
  have o:=(K.block (aI z)).trans z;exact⟨(sF o).number,(bH o 56).trans (Ay k),VR (sF o)⟩
 have H:Hid (∀W,CG 88 #[.int .i64 k.number] W (.string (gu k.number))):=fun W=>CN k.number x (by omega) W
 have j:Hid (∀W,Calls prog 138 #[.int .i64 k.height,aE (bC k.root)] W fun e w'=>∃g c,e=.returned (aR g 0 17 c)/\cS w' g 0 (gv k.height k.root)/\Gr W w'):=fun W=>(MN k.height k.root W a.1 a.2).mono fun e w' ⟨v,F,P,L⟩=>by
  obtain⟨g,c,y,X,t,_,b⟩:=P.cells (by intro e;have:=sd k.height k.root;rw[e]at this;cases this);subst y;rw[sd]at F;exact⟨g,c,F,⟨t,b⟩,L⟩
 have l:Hid (∀W g c,cS W g 0 (gv k.height k.root)->Calls prog 142 #[aR g 0 17 c] W fun e w'=>e=.returned (.string (bs (mO k.height k.root)))/\W=w'):=fun W g c h=>by
  have:=XR g 0 c (gv k.height k.root) W (by rw[sd];decide) h;rwa[sd]at this
 have d:(gu k.number).size<=21:=rV k.number ⟨by omega,by omega⟩;have f:(bs (mO k.height k.root)).size<=24:=by rw[E_];exact(Ll k.height k.root).2
 have Y:¬9223372036854775807<(gu k.number).size+1:=by omega
 rw[<-J.out];generalize gu k.number=Q at*
 generalize bs (mO k.height k.root)=R at*
 have Z:¬9223372036854775807<Q.size+1+R.size:=by omega
 have O:=underlying22;have M:(prog.info? 22).map (·.size)=some (bC k.root).length:=by rw[a_];kernel_rfl
 have C:=(Gr.refl B).drew;replace m:=aA m;replace d:=aA d;replace f:=aA f;go_in;go_wp2_with fail;try simp only[G]
 rw[m.out]
 go_region_held_law (fun u=>u.cell? (aD n 55)=some (.int .i64 k.number)/\u.cell? (aD n 56)=some (.int .i64 k.height)/\u.rangeAt n 57 (bC k.root))
  (first|with_reducible exact i.out _ g3|with_reducible exact i.out _ E|with_reducible exact i.out _ D|with_reducible exact i.out _ C)
  (first
   |(go_at_call 88;with_reducible refine bA (H.out _) fun w3 r=>?_;have D:=C.trans r)
   |(go_at_call 138;with_reducible refine(j.out _).mono ?_;rintro e w4 ⟨T,S,rfl,p,s⟩;have E:=D.trans s)
   |(go_at_call 142;with_reducible refine dK (l.out _ _ _ p) ?_))
 all_goals
  go_wp2_with fail;go_ret;exact⟨rfl,I.trans E⟩
def jp(c:UInt8)(l:bP)(k:Nat):aM:=Lib.join ((l.take k).map bl) [c]
def VF(l:bP)(k:Nat):((l.take k).map (·.size)).sum<=(l.map (·.size)).sum:=by
 conv=>rhs;rw[<-lq k l,gD,List.sum_append]
 omega
def YN(c:UInt8)(l:bP)(k:Nat):(jp c l k).length<=(l.map (·.size)).sum+k:=by
 have h:=Ca (l.take k) ⟨#[c]⟩ _ (VF l k) rfl;have a:(l.take k).length<=k:=by rw[dP];omega
 unfold jp;exact eu h (by omega)
def YZ(c:UInt8)(l:bP)(h:0<l.length):bs (jp c l 0)++l[0]=bs (jp c l 1):=by
 unfold jp;rw[fy,nI,Lib.join_nil,eF h,fy,mZ];show _=bs (Lib.join [bl l[0]] [c]);rw[nO,<-CO l[0],iY];rfl
def US(c:UInt8)(l:bP)(k:Nat)(h:k<l.length)(b:k≠0):bs (jp c l k)++(⟨#[c]⟩:aJ)++l[k]=bs (jp c l (k+1)):=by
 have a:(l.take k).map bl≠[]:=by
  intro e;have:=ei List.length e;rw[cL,dP,iJ]at this;omega
 unfold jp;rw[eF h,gD];show _=bs (Lib.join (_++[bl l[k]]) [c]);rw[yF c _ _ a (by simp),nO,show(⟨#[c]⟩:aJ)=bs [c]from rfl,<-CO l[k],iY,iY,fl];rfl
def OO(c:UInt8)(l:bP):bs (jp c l l.length)=m8 l ⟨#[c]⟩:=by
 unfold jp m8;rw[jS];rfl
def I4(c:UInt8)(l:bP)(v:Value)(w:aB)(hv:oT w v l)(hl:l.length<=1000000)(hs:(l.map (·.size)).sum<=1000000):Calls prog 89 #[v,.string ⟨#[c]⟩] w (RG w (.string (m8 l ⟨#[c]⟩))):=by
 obtain⟨hS,a,cap,rfl,hcap⟩:=hv
 have HSC:Hid (∀V,Gr w V->∀k (h:k<l.length),∃b o,a=some ⟨b,o,none⟩/\b<V.heap.size/\V.cell? ⟨b,o+k,none⟩=some (.string l[k])):=fun V hV k h=>by
  obtain⟨a1,cap1,e1,hj⟩:=hS.gr hV;obtain⟨b,o,ha,hb,hc⟩:=hj k h;obtain⟨rfl,rfl⟩:a=a1/\cap=cap1:=by simpa using e1
  exact⟨b,o,ha,hb,hc⟩
 have HL:=Lib.hid (fun k=>YN c l k);have H1:=Lib.hid (YZ c l);have HSU:=Lib.hid (US c l);have HJ0:=aA (show (⟨#[]⟩:aJ)=bs (jp c l 0) by unfold jp;rw[List.take_zero];rfl)
 rw[<-OO]
 have HSZ:Hid (∀k (h:k<l.length),l[k].size<=1000000):=fun k h=>by
  have h2:l[k].size<=(l.map (·.size)).sum:=by
   have h3:(l.map (·.size)).sum=((l.take k).map (·.size)).sum+((l.drop k).map (·.size)).sum:=by
    conv=>lhs;rw[<-List.take_append_drop k l,List.map_append,List.sum_append]
   rw[h3,List.drop_eq_getElem_cons h,List.map_cons,List.sum_cons];omega
  omega
 replace hs:=Lib.hid hs;clear hS;have zc:(⟨#[c]⟩:aJ).size=1:=rfl;obtain⟨sp,hsp⟩:∃sp:aJ,(⟨#[c]⟩:aJ)=sp:=⟨_,rfl⟩;rw[hsp]at zc HSU|-
 clear hsp;go_in;go_wp2_with fail
 go_loopw [5,6] (fun s j wr=>∃k:Nat,k<=l.length/\j=.int .i64 k/\s=.string (bs (jp c l k))/\wr=w) (fun _ j _=>l.length-(intOf j).toNat)
 .exact⟨0,Nat.zero_le _,rfl,by rw[<-HJ0.out],rfl⟩
 .
  obtain⟨k,hk,rfl,rfl,rfl⟩:=hrel;by_cases hlt:k<l.length
  .have q1:(k:Int)<(l.length:Int):=by omega
   have q2:(0:Int)<=(k:Int):=by omega
   obtain⟨b0,o0,ha,hb,hc⟩:=HSC.out wr (Gr.refl _) k hlt;subst ha;have hsz:=HL k;have hsm:=hs.out;have hsz2:(bs (jp c l k)).size=(jp c l k).length:=by show(jp c l k).toArray.size=_;rw[List.size_toArray]
   have hz3:=HSZ k hlt;have HX:Hid (if k=0 then bs (jp c l k)++l[k]=bs (jp c l (k+1))else bs (jp c l k)++sp++l[k]=bs (jp c l (k+1))):=by
    by_cases h:k=0
    .show if k=0 then _ else _
     rw[if_pos h];subst h;exact H1 hlt
    .show if k=0 then _ else _
     rw[if_neg h];exact HSU k hlt h
   have hs6:(bs (jp c l k)).size<=2000000:=by omega
   clear hsz hsz2 hsm;generalize l[k]=y at*
   generalize hj1:bs (jp c l (k+1))=j1 at*
   generalize bs (jp c l k)=j0 at*
   replace hj1:=Lib.hid hj1;have n1:¬9223372036854775807<j0.size+1:=by omega
   have n2:¬9223372036854775807<j0.size+y.size:=by omega
   have n3:¬9223372036854775807<j0.size+1+y.size:=by omega
   by_cases h0:k=0
   .rw[if_pos h0]at HX
    have q3:¬(0:Int)<(k:Int):=by omega
    replace h0:=Lib.hid h0;go_wp2_with fail;go_roundw
    .exact⟨k+1,by omega,by go_num,by rw[hj1.out,<-HX.out],by trivial⟩
    .simp[intOf];omega
   .rw[if_neg h0]at HX
    have q3:(0:Int)<(k:Int):=by omega
    replace h0:=Lib.hid h0;go_wp2_with fail;go_roundw
    .exact⟨k+1,by omega,by go_num,by rw[hj1.out,<-HX.out],by trivial⟩
    .simp[intOf];omega
  .obtain rfl:k=l.length:=by omega
   have q1:¬(l.length:Int)<(l.length:Int):=by omega
   go_wp2_with fail;go_ret;exact⟨rfl,Gr.refl _⟩
end Go.Proofs.YtjfaogajmoffoaaGreatDoor
