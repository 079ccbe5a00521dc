/- Lemmas for VerifyStatus. -/
import Derived.Test.YtjfaogajmoffoaaGreatDoorQPA5
set_option maxRecDepth 100000
set_option maxHeartbeats 16000000
set_option linter.all false
namespace Go.Proofs.YtjfaogajmoffoaaGreatDoor
open Go.RowKit Tryz
def fZ(a b:Rl):Int:=j6 (iq a.leaf b.leaf) (oK a.id b.id)
def Fo(h:Int)(r:aK)(a:Int)(b:aK):Int:=j6 (iq h a) (oK r b)
def ad8(a b:Rl)(w:aB):Calls prog 184 #[aE (bK a),aE (bK b)] w fun e w'=>e=.returned (.int .i64 (fZ a b))/\gj w w':=by
 obtain⟨h,t,f,g⟩:=AF w 132 (bK a) (bK b);have i:=aA h;go_in;go_wp2_with fail;generalize(w.alloc (aC (bK a) 132)).alloc (aC (bK b) 132)=W at*
 have c:=pB f;have d:=pB g;have k:=c.l;have m:=d.l;have n:=c.i0;have o:=d.i0;have q:=c.i1;have r:=d.i1;have s:w.heap.size<W.heap.size:=by omega
 refine jd 10 (fun u=>∃p:LD,u=lw W p) (by kernel_rfl) (by kernel_rfl) (oO W) ?_;simp only[gR,fy,ib,gd];repeat (go_big_quiet_step (first|(go_at_call 212;exact uO (Ko _ _ _))|(go_at_call 214;exact adb (WJ _ _ _))))
 refine cX ?_;rintro _ ⟨p,rfl⟩;have j:=aA (i.trans (j' W p));generalize lw W p=U at*
 go_wp2_with fail;refine dK (MG _ (iq a.leaf b.leaf) (oK a.id b.id) _ (by go_simp) (by go_simp)) ?_;go_wp2_with fail;go_ret;exact⟨rfl,j.alloc _⟩
def MV{W:aB}{b:Nat}{h:Int}{r:aK}(a:HB W b (aN h r) 44):nU W b 1 r.toList:=by
 intro j c
 rw[bH a,pl 1 j];show(Value.int .i64 h::bC r)[j+1]? =_
 rw[xt];simp only[bC,fo,cO c,jm]
def QV(h:Int)(r:aK)(b:Int)(a:aK)(w:aB):Calls prog 182 #[aE (aN h r),aE (aN b a)] w fun e w'=>e=.returned (.int .i64 (Fo h r b a))/\gj w w':=by
 obtain⟨g,m,c,d⟩:=AF w 44 (aN h r) (aN b a);have j:=aA g;go_in;go_wp2_with fail;generalize(w.alloc (aC (aN h r) 44)).alloc (aC (aN b a) 44)=W at*
 obtain⟨n,_,_,_,_,_⟩:=sb c;obtain⟨o,_,_,_,_,_⟩:=sb d;have l:w.heap.size<W.heap.size:=by omega
 have i:Hid (∀p:LD,Calls prog 213 #[aR (w.heap.size) 1 16 16,aR (w.heap.size+1) 1 16 16] (lw W p) fun e w'=>e=.returned (.int .i64 (oK r a))/\lw W p=w'):=fun p=>by
  have f:=Cj w.heap.size 1 16 (w.heap.size+1) 1 16 r.toList a.toList (lw W p) ((MV c).gr (j' W p).1 l) ((MV d).gr (j' W p).1 m);simp only[Dx]at f;exact f
 refine jd 10 (fun u=>∃p:LD,u=lw W p) (by kernel_rfl) (by kernel_rfl) (oO W) ?_;simp only[gR,fy,ib,gd];repeat (go_big_quiet_step (first|(go_at_call 212;exact uO (Ko _ _ _))|(go_at_call 213;exact uO (i _))))
 refine cX ?_;rintro _ ⟨p,rfl⟩;have k:=aA (j.trans (j' W p));generalize lw W p=U at*
 go_wp2_with fail;refine dK (MG _ (iq h b) (oK r a) _ (by go_simp) (by go_simp)) ?_;go_wp2_with fail;go_ret;exact⟨rfl,k.alloc _⟩
abbrev Pk:=Int×aK
def gy(p:Pk):bF:=aN p.1 p.2
def pL(p:Pk):(gy p).length=17:=bG _ _
def BS(p:Pk):cN (gy p)=true:=h_ _ _
def mE:Pk:=(0,aQ)
def jr(a b:Pk):Int:=Fo a.1 a.2 b.1 b.2
def Uj(a b:Pk)(w:aB):Calls prog 182 #[aE (gy a),aE (gy b)] w fun e w'=>e=.returned (.int .i64 (jr a b))/\gj w w':=QV _ _ _ _ w
def acS(p:Pk):(prog.info? 44).map (·.size)=some (gy p).toArray.size:=by
 rw[bQ,pL];kernel_rfl
def ac4(p:Rl):(prog.info? 132).map (·.size)=some (bK p).toArray.size:=by
 rw[bQ,fM];kernel_rfl
def least{a:Type}(b:a->a->Int)(z:a):List a->a
 |[]=>z
 |x::l=>l.foldl (fun m y=>if b y m<0 then y else m) x
def Iu{b:Type}(a:b->b->Int)(z:b)(l:List b)(k:Nat)(h:k<l.length):least a z (l.take (k+1))=if k=0 then l[k]else if a l[k] (least a z (l.take k))<0 then l[k]else least a z (l.take k):=by
 cases l with
 |nil=>simp at h
 |cons x l=>
  cases k with
  |zero=>simp[least]
  |succ k=>
   have c:k<l.length:=by simpa using h
   rw[aF (by omega),gR,gR];show List.foldl _ x (l.take (k+1))=_;rw[eF c,ta];rfl
def acH(l:List Pk)(v:Value)(w:World)(hv:bX w v 17 (l.map gy))(hl:l.length<=1000000):
  Calls prog 181 #[v,.func (.func 182) #[] #[]] w fun e w'=>e=.returned (.tuple #[.agg (gy (least jr mE l)).toArray,.bool (decide (0<(l.length:Int)))])/\Gr w w':=by
 have eg:∀args w,(callFunc 182 args).run prog w=.ok (.enter 182 args) w:=lV func182 (by kernel_rfl) rfl;obtain⟨a,a1,rfl,hc,hj⟩:=hv;have e1:(l.map gy).length=l.length:=by simp
 rw[e1]at hc|-
 have HJ:=aA hj;have s:=aA Uj;obtain⟨n,Y⟩:=ex w.heap.size;have P:=aA Y;have C1:(aN 0 aQ).length=17:=pL mE;have HB:=AF w 44 (aN 0 aQ) (aN 0 aQ);obtain⟨W,K⟩:=ex ((w.alloc (aC (aN 0 aQ) 44)).alloc (aC (aN 0 aQ) 44));rw[K,Y]at HB;obtain⟨C,T,D,E⟩:=HB;have GL:=aA C.1;have B4:=aA D;have B5:=aA E;clear hj e1 C T D E;go_in;go_wp2_with fail;try simp only[Y]
 try rw[show(w.alloc (aC (aN 0 aQ) 44)).alloc (aC (aN 0 aQ) 44)=W from K]
 replace K:=aA K
 go_loopw [11] (fun i wr=>∃k:Nat,k<=l.length/\i=.int .i64 k/\Hid (Gr w wr)/\Hid (wr.heap[n]? =some (aC (aN 0 aQ) 44))/\Hid (wr.heap[n+1]? =some (aC (gy (least jr mE (l.take k))) 44))) (fun i _=>l.length-(intOf i).toNat)
 .exact⟨0,bW _,rfl,GL,B4,B5⟩
 .
  obtain⟨k,hk,rfl,j,B,J⟩:=hrel;clear GL B4 B5;by_cases H:k<l.length
  .obtain⟨b,o,rfl,hb,q1,q2⟩:=HJ.out k (by simpa using H)
   have u1:=(j.hasRow hb).trans q1;have u2:=(j.rowAt hb).trans q2;rw[ig]at u2;have Q:=aA (Iu jr mE l k H);clear q1 q2;generalize l[k]=y at*
   have V:(k:Int)<(l.length:Int):=by omega
   have a2:=nn k
   generalize q:least jr mE (l.take k)=m at*
   replace q:=aA q;obtain⟨p,hp⟩:=ex wr.heap.size;obtain⟨U,hU,r,R⟩:=gO hp (aC (gy y) 44)
   have u:=aA ((r.block (aI B)).trans B);have h:=aA ((r.block (aI J)).trans J)
   have I:=pL y;have D2:=BS y;have g:=pL m;have D4:=BS m;obtain⟨Z,r1,r2⟩:=dL 17 I R.out;obtain⟨L,M,N⟩:=dL 17 g h.out;have s3:=bE h 0 17;by_cases c:k=0
   .have X:((k:Int)==0)=true:=by simp[c]
    have t:=aA (show least jr mE (l.take (k+1))=y by rw[Q.out,aG c])
    replace c:=aA c;go_wp2_with fail;go_roundw
    .exact⟨k+1,by omega,by go_num,(j.trans r).setsOwn (b:=n+1) (by have:=P.out;omega) _ _,(cD (by omega) _ _ _).trans u,by show _=_;rw[t.out];exact bO h (by rw[I,g])⟩
    .simp[intOf];omega
   .have F:¬(k:Int)=0:=by omega
    have X:((k:Int)==0)=false:=dI.2 F;clear F;replace c:=aA c;by_cases d:jr y m<0
    .have hd:decide (jr y m<0)=true:=by simpa using d
     have t:=aA (show least jr mE (l.take (k+1))=y by rw[Q.out,aF c.out,aG d])
     go_wp2_with (go_at_call 182;refine(s y m U).mono ?_;rintro e w2 ⟨rfl,z⟩;have f:=aA z.1;have Y8:=aA ((f.block (aI R)).trans R);have S:=aA ((f.block (aI u)).trans u);have x:=aA ((f.block (aI h)).trans h);clear Z r1 r2 L M N s3 z;obtain⟨Z,r1,r2⟩:=dL 17 I Y8.out;obtain⟨L,M,N⟩:=dL 17 g x.out;have s3:=bE x 0 17);go_roundw
     .exact⟨k+1,by omega,by go_num,(j.trans (r.trans f)).setsOwn (b:=n+1) (by have:=P.out;omega) _ _,(cD (by omega) _ _ _).trans S,by show _=_;rw[t.out];exact bO x (by rw[I,g])⟩
     .simp[intOf];omega
    .have hd:decide (jr y m<0)=false:=by simpa using d
     have t:=aA (show least jr mE (l.take (k+1))=m by rw[Q.out,aF c.out,aF d])
     go_wp2_with (go_at_call 182;refine(s y m U).mono ?_;rintro e w2 ⟨rfl,z⟩;have f:=aA z.1;have S:=aA ((f.block (aI u)).trans u);have x:=aA ((f.block (aI h)).trans h);clear Z r1 r2 L M N s3 z);go_roundw
     .exact⟨k+1,by omega,by go_num,j.trans (r.trans f),S,by show _=_;rw[t.out];exact x⟩
     .simp[intOf];omega
  .have G:l.take k=l:=eq (by omega)
   rw[G]at J;have V:¬(k:Int)<(l.length:Int):=by omega
   generalize q:least jr mE l=m at*
   replace q:=aA q;have g:=pL m;have D4:=BS m;obtain⟨L,M,N⟩:=dL 17 g J.out;have t0:=aP B 0 17 (by rw[C1];decide);have t1:=bE B 0 17;clear G;go_wp2_with fail;have HE:Hid ((wr.setCells n 0 (gy m)).heap[n]? =some (aC (gy m) 44)):=bO B (by rw[C1,g])
   have O:=aA (j.setsOwn (b:=n) (by have:=P.out;omega) (gy m) 0);refine bI (jA rfl _ _ n _ _ _ _ rfl HE underlying44 rfl (acS _)) rfl ?_;exact⟨by rw[q.out];rfl,O⟩
def Sq(l:List Rl)(v:Value)(w:World)(hv:bX w v 84 (l.map bK))(hl:l.length<=1000000):
  Calls prog 183 #[v,.func (.func 184) #[] #[]] w fun e w'=>e=.returned (.tuple #[.agg (bK (least fZ ep l)).toArray,.bool (decide (0<(l.length:Int)))])/\Gr w w':=by
 have eg:∀args w,(callFunc 184 args).run prog w=.ok (.enter 184 args) w:=lV func184 (by kernel_rfl) rfl;obtain⟨a,a1,rfl,hc,hj⟩:=hv;have e1:(l.map bK).length=l.length:=by simp
 rw[e1]at hc|-
 have HJ:=aA hj;have s:=aA ad8;obtain⟨n,Y⟩:=ex w.heap.size;have P:=aA Y;have C1:(bK ep).length=84:=fM ep;have HB:=AF w 132 (bK ep) (bK ep);obtain⟨W,K⟩:=ex ((w.alloc (aC (bK ep) 132)).alloc (aC (bK ep) 132));rw[K,Y]at HB;obtain⟨C,T,D,E⟩:=HB;have GL:=aA C.1;have B4:=aA D;have B5:=aA E;clear hj e1 C T D E;go_in;go_wp2_with fail;try simp only[Y]
 try rw[show(w.alloc (aC (bK ep) 132)).alloc (aC (bK ep) 132)=W from K]
 replace K:=aA K
 go_loopw [11] (fun i wr=>∃k:Nat,k<=l.length/\i=.int .i64 k/\Hid (Gr w wr)/\Hid (wr.heap[n]? =some (aC (bK ep) 132))/\Hid (wr.heap[n+1]? =some (aC (bK (least fZ ep (l.take k))) 132))) (fun i _=>l.length-(intOf i).toNat)
 .exact⟨0,bW _,rfl,GL,B4,B5⟩
 .
  obtain⟨k,hk,rfl,j,B,J⟩:=hrel;clear GL B4 B5;by_cases H:k<l.length
  .obtain⟨b,o,rfl,hb,q1,q2⟩:=HJ.out k (by simpa using H)
   have u1:=(j.hasRow hb).trans q1;have u2:=(j.rowAt hb).trans q2;rw[ig]at u2;have Q:=aA (Iu fZ ep l k H);clear q1 q2;generalize l[k]=y at*
   have V:(k:Int)<(l.length:Int):=by omega
   have a2:=nn k
   generalize q:least fZ ep (l.take k)=m at*
   replace q:=aA q;obtain⟨p,hp⟩:=ex wr.heap.size;obtain⟨U,hU,r,R⟩:=gO hp (aC (bK y) 132)
   have u:=aA ((r.block (aI B)).trans B);have h:=aA ((r.block (aI J)).trans J)
   have I:=fM y;have D2:=pQ y;have g:=fM m;have D4:=pQ m;obtain⟨Z,r1,r2⟩:=dL 84 I R.out;obtain⟨L,M,N⟩:=dL 84 g h.out;have s3:=bE h 0 84;by_cases c:k=0
   .have X:((k:Int)==0)=true:=by simp[c]
    have t:=aA (show least fZ ep (l.take (k+1))=y by rw[Q.out,aG c])
    replace c:=aA c;go_wp2_with fail;go_roundw
    .exact⟨k+1,by omega,by go_num,(j.trans r).setsOwn (b:=n+1) (by have:=P.out;omega) _ _,(cD (by omega) _ _ _).trans u,by show _=_;rw[t.out];exact bO h (by rw[I,g])⟩
    .simp[intOf];omega
   .have F:¬(k:Int)=0:=by omega
    have X:((k:Int)==0)=false:=dI.2 F;clear F;replace c:=aA c;by_cases d:fZ y m<0
    .have hd:decide (fZ y m<0)=true:=by simpa using d
     have t:=aA (show least fZ ep (l.take (k+1))=y by rw[Q.out,aF c.out,aG d])
     go_wp2_with (go_at_call 184;refine(s y m U).mono ?_;rintro e w2 ⟨rfl,z⟩;have f:=aA z.1;have Y8:=aA ((f.block (aI R)).trans R);have S:=aA ((f.block (aI u)).trans u);have x:=aA ((f.block (aI h)).trans h);clear Z r1 r2 L M N s3 z;obtain⟨Z,r1,r2⟩:=dL 84 I Y8.out;obtain⟨L,M,N⟩:=dL 84 g x.out;have s3:=bE x 0 84);go_roundw
     .exact⟨k+1,by omega,by go_num,(j.trans (r.trans f)).setsOwn (b:=n+1) (by have:=P.out;omega) _ _,(cD (by omega) _ _ _).trans S,by show _=_;rw[t.out];exact bO x (by rw[I,g])⟩
     .simp[intOf];omega
    .have hd:decide (fZ y m<0)=false:=by simpa using d
     have t:=aA (show least fZ ep (l.take (k+1))=m by rw[Q.out,aF c.out,aF d])
     go_wp2_with (go_at_call 184;refine(s y m U).mono ?_;rintro e w2 ⟨rfl,z⟩;have f:=aA z.1;have S:=aA ((f.block (aI u)).trans u);have x:=aA ((f.block (aI h)).trans h);clear Z r1 r2 L M N s3 z);go_roundw
     .exact⟨k+1,by omega,by go_num,j.trans (r.trans f),S,by show _=_;rw[t.out];exact x⟩
     .simp[intOf];omega
  .have G:l.take k=l:=eq (by omega)
   rw[G]at J;have V:¬(k:Int)<(l.length:Int):=by omega
   generalize q:least fZ ep l=m at*
   replace q:=aA q;have g:=fM m;have D4:=pQ m;obtain⟨L,M,N⟩:=dL 84 g J.out;have t0:=aP B 0 84 (by rw[C1];decide);have t1:=bE B 0 84;clear G;go_wp2_with fail;have HE:Hid ((wr.setCells n 0 (bK m)).heap[n]? =some (aC (bK m) 132)):=bO B (by rw[C1,g])
   have O:=aA (j.setsOwn (b:=n) (by have:=P.out;omega) (bK m) 0);refine bI (jA rfl _ _ n _ _ _ _ rfl HE underlying132 rfl (ac4 _)) rfl ?_;exact⟨by rw[q.out];rfl,O⟩
def UF(h:Int)(r:aK)(t:1<=h/\h<=8)(w:aB)(q:Kt w):Calls prog 12 #[aE (aN h r)] w (RG w (.tuple #[aE (bC (cF (gv h r))),.int .i64 0])):=by
 obtain⟨n,u⟩:=ex w.heap.size;have C:=aA u;have g:Hid (HB ((w.alloc (aC (aN h r) 44)).alloc (aC (bC aQ) 42)) n (aN h r) 44):=(((Gr.refl _).alloc _).block (by simp;omega)).trans (aY _ _ _ u.symm)
 have p:Hid (HB ((w.alloc (aC (aN h r) 44)).alloc (aC (bC aQ) 42)) (n+1) (bC aQ) 42):=aY _ _ _ (by simp;omega)
 have o:Hid (Gr w ((w.alloc (aC (aN h r) 44)).alloc (aC (bC aQ) 42))):=((Gr.refl w).alloc _).alloc _
 have k:Hid (∀W,CG 30 #[aE (aN h r)] W (.int .i64 0)):=fun W=>by
  have s:=pf h r W;rw[show cH h=0 by unfold cH;rw[aF (by omega)]]at s;exact s
 have j:Hid (∀W,Calls prog 32 #[aE (aN h r)] W fun e w'=>∃v,e=.returned v/\aZ w' W.heap.size v (gv h r)/\Gr W w'):=fun W=>Fa h r W t.1 t.2;have B:=aA q;have K:=h_ h r;have L:=bG h r;have E:=aP g 0 17 (by rw[bG];decide);have F:=(bJ g 0 17 (by rw[bG];decide)).trans (b_ _ _ (bG h r));have G:=aI g;obtain⟨y,x⟩:∃y,cF (gv h r)=y:=⟨_,rfl⟩;have M:=aO y;have N:=cZ y;clear q;go_in;go_wp2_with (first
  |(go_at_call 30;refine bA (k _) fun H c=>?_;have d:=aA ((c.block (aI g)).trans g);have O:=aP d 0 17 (by rw[bG];decide);have P:=(bJ d 0 17 (by rw[bG];decide)).trans (b_ _ _ (bG h r));have Q:=aI d;clear E F G)
  |(go_at_call 32;refine(j H).mono ?_;rintro e I ⟨v,rfl,D,f⟩)
  |(go_at_call 31;refine(wO v _ I (B.gr ((o.trans c).trans f)) (by rw[sd];decide) D.bytG).mono ?_;rw[x];rintro e J ⟨rfl,i⟩;have l:=aA (((o.trans c).trans f).trans i);have a:=aA ((((c.trans f).trans i).block (aI p)).trans p);have R:=aP a 0 16 (by simp[aO]);have S:=bE a 0 16;have T:=aI a))
 have z:Hid (HB (J.setCells (n+1) 0 (bC y)) (n+1) (bC y) 42):=bO a (by simp[aO])
 have m:=aA (l.setsOwn (b:=n+1) (by have:=C.out;omega) (bC y) 0);refine bI (jA rfl _ _ (n+1) _ _ _ _ rfl z underlying42 rfl (E8 _)) rfl ?_;exact⟨by rw[x];rfl,m⟩
def acz(h:Int)(r:aK)(B:cH h≠0)(w:aB):Calls prog 12 #[aE (aN h r)] w (RG w (.tuple #[aE (bC aQ),.int .i64 (cH h)])):=by
 obtain⟨n,k⟩:=ex w.heap.size;have u:=aA k;obtain⟨v,g,t,q,j⟩:=gT k (aC (aN h r) 44) (aC (bC aQ) 42)
 have a:=aA (pf h r v);have x:=bG h r;have y:=aO aQ;have E:=cZ aQ;obtain⟨l,m,o⟩:=dL 17 x q.out;have C:(cH h != 0)=true:=by simp[B]
 generalize i:cH h=z at*
 replace i:=aA i;go_in;go_wp2_with fail;try rw[g]
 replace g:=aA g;refine bA a fun D f=>?_;have p:=aA f;have d:=aA ((f.block (aI j)).trans j);clear l m o f;obtain⟨l,m,o⟩:=dL 16 y d.out;have F:=bE d 0 16;go_wp2_with fail;have s:Hid (HB (D.setCells (n+1) 0 (bC aQ)) (n+1) (bC aQ) 42):=bO d rfl
 have c:=aA ((t.trans p).setsOwn (b:=n+1) (by have:=u.out;omega) (bC aQ) 0);refine bI (jA rfl _ _ (n+1) _ _ _ _ rfl s underlying42 rfl (E8 _)) rfl ?_;exact⟨by first|rfl|(rw[i.out];rfl),c⟩
def jG(a:aK)(h:Int)(r:aK):Bool:=decide (cH h=0)&&(cF (gv h r)==a)
def ofG(h:Int)(r:aK)(w:aB)(b:Kt w):∃y:aK,(cH h=0->y=cF (gv h r))/\Calls prog 12 #[aE (aN h r)] w (RG w (.tuple #[aE (bC y),.int .i64 (cH h)])):=by
 by_cases hh:cH h=0
 .have a:1<=h/\h<=8:=by
   unfold cH at hh;by_cases k:h<1\/8<h
   .rw[aG k]at hh;cases hh
   .omega
  refine⟨_,fun _=>rfl,?_⟩;rw[hh];exact UF h r a w b
 .exact⟨aQ,fun e=>absurd e hh,acz h r hh w⟩
def LK(a:aK)(h:Int)(r:aK)(w:aB)(o:Kt w):Calls prog 53 #[aE (bC a),aE (aN h r)] w (RG w (.bool (jG a h r))):=by
 obtain⟨n,u⟩:=ex w.heap.size;obtain⟨t,i,k,g,-⟩:=gT u (aC (bC a) 42) (aC (aN h r) 44)
 obtain⟨y,s,q⟩:=ofG h r t (o.gr k.out);have m:=aA q;have j:Hid (jG a h r=(decide (cH h=0)&&(y==a))):=by
  show _=_;unfold jG;by_cases p:cH h=0
  .rw[s p]
  .simp[p]
 rw[j.out];generalize cH h=z at*
 have D:=aO y;have E:=cZ y;have F:=bG h r;replace i:=aA i;clear o s q;by_cases f:z=0
 case pos=>
  subst f;go_in;go_wp2_with fail;rw[i.out];refine bA m fun C d=>?_;have b:=aA (d.alloc (aC (bC y) 42));have c:=aA ((b.block (aI g)).trans g);clear d;have x:=aP c 0 16 (by rw[aO];decide);have B:=(bJ c 0 16 (by rw[aO];decide)).trans (b_ _ _ (aO a));go_wp2_with fail;go_ret;exact⟨rfl,k.trans b⟩
 case neg=>
  have v:(z==0)=false:=dI.2 f;have l:decide (z=0)=false:=eL f;replace f:=aA f;go_in;go_wp2_with fail;rw[i.out];refine bA m fun C d=>?_;have b:=aA (d.alloc (aC (bC y) 42));have c:=aA ((b.block (aI g)).trans g);clear d;have x:=aP c 0 16 (by rw[aO];decide);have B:=(bJ c 0 16 (by rw[aO];decide)).trans (b_ _ _ (aO a));go_wp2_with fail;go_ret;exact⟨by first|rfl|(rw[l];rfl),k.trans b⟩
def jC(L:List Rl)(a:aK)(n:Int):List Rl:=L.filter fun y=>decide (y.at_.a=a/\y.at_.n=n)
def eW(y:Rl):Pk:=(y.h,y.r)
def ed(L:List Rl)(a:aK)(n:Int)(p:Pk):List Rl:=(jC L a n).filter fun y=>decide (eW y=p)
def mU(L:List Rl)(a:aK)(n:Nat)(p:Pk):Ky:=
 if ed L a n p=[]then⟨n,p.1,p.2,-1,bM⟩else⟨n,p.1,p.2,(least fZ ep (ed L a n p)).leaf,(least fZ ep (ed L a n p)).id⟩
def oM(L:List Rl)(a:aK):Nat->Nat->Pk->List Ky
 |0,_,_=>[]
 |f+1,n,p=>mU L a n p::(if ed L a n p=[]then[]else oM L a f (n+1) ((least fZ ep (ed L a n p)).nh,(least fZ ep (ed L a n p)).nr))
def chain(L:List Rl)(a:aK):List Ky:=if jC L a 0=[]then[]else oM L a (L.length+1) 0 (least jr mE ((jC L a 0).map eW))
def CE(base x b c:Nat)(L:List Rl):Prop:=∀(a:aK) (w:aB),Rg w base x b c L->
 Calls prog 145 #[bZ x,aE (bC a)] w fun e w'=>∃v,e=.returned v/\bX w' v 51 ((chain L a).map cR)/\(chain L a).length<=1000/\Gr w w'
def lH(l:List Ky)(n:Int):Bool:=decide (0<=n/\n<l.length)
def eT(l:List Ky)(n:Int):Ky:=if 0<=n then l.getD n.toNat qU else qU
def Xe{l:List Ky}{n:Int}(h:¬(0<=n/\n<l.length)):eT l n=qU:=by
 unfold eT;by_cases a:0<=n
 .rw[aG a,eD,kZ (by omega)];rfl
 .rw[aF a]
def acx(p:Ky):(prog.info? 181).map (·.size)=some (cR p).toArray.size:=by
 rw[bQ,mF];kernel_rfl
def Xj(base x Q R:Nat)(L:List Rl)(G:CE base x Q R L)(a:aK)(m:Int)(w:aB)(W:Rg w base x Q R L):
  Calls prog 96 #[bZ x,aE (bC a),.int .i64 m] w (RG w (.tuple #[aE (cR (eT (chain L a) m)),.bool (lH (chain L a) m)])):=by
 obtain⟨n,J⟩:=ex w.heap.size;have P:=aA J;obtain⟨Y,r,D,-,p⟩:=gT J (aC (bC a) 42) (aC l_ 181)
 have B:=aA (G a Y (W.gr D));have k:=aY w (aC (bC a) 42) n J.symm;have T:=aP k 0 16 (by rw[aO];decide);have U:=(bJ k 0 16 (by rw[aO];decide)).trans (b_ _ _ (aO a));have V:=aI k;have B1:=aO a;have B2:=cZ a;have t:=AK;have k2:cN l_=true:=by decide+kernel
 obtain⟨l,H⟩:=ex (chain L a);rw[H]at B;have N:=aA H;replace r:=aA r;clear k W H;by_cases c:0<=m/\m<l.length
 .have q:lH l m=true:=by unfold lH;simp[c]
  have y:Hid (∀(h:m.toNat<l.length),eT l m=l[m.toNat]):=by
   intro h;unfold eT;rw[aG c.1,eD,cO h];rfl
  have h1:¬m<0:=by omega
  have h2:¬(l.length:Int)<=m:=by omega
  have h3:=c.1;have h4:=c.2;have O:=aA c;clear c;go_in;go_wp2_with fail;rw[r.out];refine B.mono ?_;rintro e M ⟨v,rfl,K,I,g⟩;obtain⟨Z,F,rfl,i,s⟩:=K;rw[cL]at i|-
  obtain⟨b,o,rfl,hb,q1,q2⟩:=s m.toNat (by rw[cL];have:=O.out;omega);rw[ig,<-y.out (by have:=O.out;omega)]at q2;have a1:(m.toNat:Int)=m:=by omega
  have d:=aA ((g.block (aI p)).trans p);have z:=aA g;clear T U V g s;have z0:=aP d 0 51 (by rw[t];decide);have z1:=bE d 0 51;have z2:=aI d;have d1:=mF (eT l m);have d2:=ss (eT l m);generalize j:eT l m=u at*
  have E:=aA j;clear j;go_wp2_with fail;have C:Hid (HB (M.setCells (n+1) 0 (cR u)) (n+1) (cR u) 181):=bO d (by rw[d1,t])
  have f:=aA ((D.trans z).setsOwn (b:=n+1) (by have:=P.out;omega) (cR u) 0);refine bI (jA rfl _ _ (n+1) _ _ _ _ rfl C underlying181 rfl (acx u)) rfl ?_;exact⟨by rw[N.out,E.out,q];rfl,f⟩
 .have S:eT l m=qU:=Xe c
  have q:lH l m=false:=by unfold lH;exact eL c
  have y:=aA S;have X:=aA q;clear S q;by_cases h1:m<0
  focus
   clear c
  rotate_left
  focus
   have h2:(l.length:Int)<=m:=by omega
   clear c
  all_goals
   go_in;go_wp2_with fail;rw[r.out];refine B.mono ?_;rintro e M ⟨v,rfl,K,I,g⟩;obtain⟨Z,F,rfl,i,s⟩:=K;rw[cL]at i|-
   have d:=aA ((g.block (aI p)).trans p);have z:=aA g;clear T U V g s;have z0:=aP d 0 51 (by rw[t];decide);have z1:=bE d 0 51;have z2:=aI d;go_wp2_with fail;have C:Hid (HB (M.setCells (n+1) 0 l_) (n+1) l_ 181):=bO d rfl
   have f:=aA ((D.trans z).setsOwn (b:=n+1) (by have:=P.out;omega) l_ 0);refine bI (jA rfl _ _ (n+1) _ _ _ _ rfl C underlying181 rfl (by rw[bQ,t];kernel_rfl)) rfl ?_;exact⟨by rw[N.out,y.out,X.out];rfl,f⟩
end Go.Proofs.YtjfaogajmoffoaaGreatDoor
