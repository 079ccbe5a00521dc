/- Lemmas for VerifyStatus. -/
import Derived.Test.YtjfaogajmoffoaaGreatDoorQPA2
set_option maxRecDepth 100000
set_option maxHeartbeats 16000000
set_option linter.all false
namespace Go.Proofs.YtjfaogajmoffoaaGreatDoor
open Go.RowKit Tryz
def FS.tk{w W:aB}{k:bU}{n:Nat}{z x y:Int}(a:w.heap.size=n)(h:FS w k n z W)(b:cQ z true x=y):Calls prog 107 #[bZ (n+1),.int .i64 x] W fun e w'=>e=.returned (.tuple #[])/\FS w k n y w':=b▸h.take x a
def aa8(l:bP)(a:l.length=11)(i:Nat)(hi:i<11)(w:aB):(Instr.index 204 (aE (l.map Value.string)) (.int .i64 (i:Int))).run prog w=.ok (.string (l[i]'(by omega))) w:=by
 match l,a with
 |[_,_,_,_,_,_,_,_,_,_,_],_=>
  match i,hi with
  |0,_|1,_|2,_|3,_|4,_|5,_|6,_|7,_|8,_|9,_|10,_=>show _=_;kernel_rfl
def LB(a:bP)(b:a.length=11)(i:Nat)(hi:i<11):((eM.zip a).take (i+1)).flatMap mq=((eM.zip a).take i).flatMap mq++mq (eM.getD i eS,a[i]'(by omega)):=by
 have h:i<(eM.zip a).length:=by rw[List.length_zip,b];show i<min 11 11;omega
 rw[eF h,pG,List.getElem_zip,eD,cO (show i<eM.length from hi)];simp
def NQ(a:bP)(b:a.length=11)(c:∀v∈a,v.size<=5000):∀i,i<=11->(((eM.zip a).take i).flatMap mq).length<=5020*i
 |0,_=>by simp
 |i+1,h=>by
  have d:∀i,i<11->(eM.getD i eS).size<=12:=by decide
  have e:=d i (by omega);have f:=c (a[i]'(by omega)) (kA _)
  have:=NQ a b c i (by omega);rw[LB a b i (by omega),bV];have g:(mq (eM.getD i eS,a[i]'(by omega))).length=(eM.getD i eS).size+1+(a[i]'(by omega)).size+1:=by unfold mq;simp[bN];omega
  omega
def ZH{k:bU}{a:bP}{rs:List Id}(g:iO k a)(h:gq rs=0):∀v∈oX k a rs,v.size<=5000:=by
 obtain⟨q,r,s,c,d,e,f⟩:=g;have i:=rV k.date e;have j:=rV k.leaf f;have l:=Aw k d;have m:=CS k.sup;have n:=D0 a 3000 c;have o:=DH rs h;have p:(bs (lI k.author)).size=32:=by rw[un,Eo]
 intro v b;simp only[oX,pc,xF,or_false]at b;rcases b with rfl|rfl|rfl|rfl|rfl|rfl|rfl|rfl|rfl|rfl|rfl<;>omega
abbrev zh:Obj:=.cells (List.replicate 11 (.string ⟨#[]⟩)).toArray 204
def Rd(a b c d e f g h i j k:aJ)(w:aB):(Instr.build 204 #[(0,.string a),(1,.string b),(2,.string c),(3,.string d),(4,.string e),(5,.string f),(6,.string g),(7,.string h),(8,.string i),(9,.string j),(10,.string k)]).run prog w=.ok (aE ([a,b,c,d,e,f,g,h,i,j,k].map Value.string)) w:=by kernel_rfl
@[go_sem] def agi (a b c d e f g h i j k:aJ) (w:aB):eG prog 204 #[(0,.string a),(1,.string b),(2,.string c),(3,.string d),(4,.string e),(5,.string f),(6,.string g),(7,.string h),(8,.string i),(9,.string j),(10,.string k)] w=.ok (.value (aE ([a,b,c,d,e,f,g,h,i,j,k].map Value.string))) w:=fe (Rd a b c d e f g h i j k w)
def GI(x:Nat)(z:List Nat):List Nat->OT
 |[]=>.one x (z.foldr .one .fin)
 |i::r=>.alt (.one i (GI x z r)) (.one x ((i::r++z).foldr .one .fin))
def Ht(k:bU)(f:List ByteArray)(rs:List Id)(w:World)(E:iO k f)(X:fF w k f rs)(hE:Ev w)(hP:Pw w)(hW:rZ w):
  Calls prog 64 #[.agg (aX k).toArray] w fun e w'=>e=.returned (.tuple #[.string (ue k f rs),.int .i64 (fc k f rs)])/\Gr w w':=by
 obtain⟨n,hn⟩:=ex w.heap.size;obtain⟨U0,hU,HG,H0,H1⟩:=gT hn (aC (aX k) 46) (.cells #[.int .i64 0] 199);have aa:=X.one;have ag:=dO k;obtain⟨z,C⟩:=ex (fc k f rs);have t:=aA (fun h=>zn (C.trans h));have F:Hid (FS w k n 0 U0):=⟨HG,H0,H1⟩;have T1:Hid (∀W,FS w k n 0 W->Calls prog 108 #[.agg (aX k).toArray] W fun e w'=>e=.returned (.int .i64 z)/\FS w k n 0 w'):=fun W h=>h.call (C▸OI k f rs W E.sm (X.gr h.1) (hE.gr h.1));have T2:=aA (fun W (h:FS w k n z W)=>h.call (Vb k aa E.n W ((hE.gr h.1).a) (hP.gr h.1) (by have:=Aw k E.n;omega)));have T3:=aA (fun W (h:FS w k n z W)=>h.call (Kq f k.groups W (hE.e.gr h.1) (X.g.gr h.1) E.sm.g E.sm.z));have T4:=aA (fun W (h:FS w k n z W)=>h.call (Qv rs k.refs W (bX.gr X.r h.1)));have T5:=aA (fun W (h:FS w k n 0 W)=>h.tk hn (ado z));have T6:=aA (fun W (h:FS w k n z W)=>h.tk hn (x:=kG f) (Cs fun q=>(t q).1));have T7:=aA (fun W (h:FS w k n z W)=>h.tk hn (x:=gq rs) (Cs fun q=>(t q).2.1));have T8:=aA (fun W (h:FS w k n z W)=>h.tk hn (x:=cH k.height) (Cs fun q=>(t q).2.2.1));obtain⟨ga,gm,gc,y⟩:∃a m c,k.groups=.slice a m c:=by obtain⟨_,a,c,h,_⟩:=X.g;exact⟨a,_,c,h⟩
 obtain⟨ra,rm,rc,B⟩:∃a m c,k.refs=.slice a m c:=by obtain⟨a,c,h,_⟩:=X.r;exact⟨a,_,c,h⟩
 rw[y]at T3;rw[B]at T4;have a1:=aA (show ue k f rs=if z=0 then bs (dR k f rs)else⟨#[]⟩ by unfold ue;rw[C])
 rw[a1.out,C];have HS:=aA (fun h:z=0=>ZH E (t h).2.1);have ae:k.body.size<=2000:=E.b;have D1:=aA (fun W g=>Fz k.date E.d W (hP.gr g));have D2:=aA (fun W g=>Fz k.leaf E.l W (hP.gr g));have HW:=aA hW;obtain⟨f1,f2,f3,f4,f5,f6,f7,f8,f9,G,H,I,J,K,L,M,N,O,P⟩:=jz F.out.2.1;rw[y]at f5;rw[B]at f7;replace hU:=aA hU;replace y:=aA y;replace B:=aA B;clear X hE hP hW E C t a1 HG H0 H1;go_in;go_wp2_with fail;try simp only[hn]
 rw[hU.out];iterate 8
  clear f1 f2 f3 f4 f5 f6 f7 f8 f9 G H I J K L M N O P;first
  |with_reducible refine(T1.out _ F.out).mono ?_
  |with_reducible refine(T2.out _ F.out).mono ?_
  |with_reducible refine(T3.out _ F.out).mono ?_
  |with_reducible refine(T4.out _ F.out).mono ?_
  |with_reducible refine(T5.out _ F.out).mono ?_
  |with_reducible refine(T6.out _ F.out).mono ?_
  |with_reducible refine(T7.out _ F.out).mono ?_
  |with_reducible refine(T8.out _ F.out).mono ?_
  clear F;rintro _ W ⟨rfl,F⟩;replace F:=aA F;have c0:W.cell? ⟨n+1,0,none⟩=some (.int .i64 _):=bH (cs:=[.int .i64 _]) F.2.2 0;have c1:=aI F.2.2;obtain⟨f1,f2,f3,f4,f5,f6,f7,f8,f9,G,H,I,J,K,L,M,N,O,P⟩:=jz F.out.2.1;rw[y.out]at f5;rw[B.out]at f7;go_wp2_with fail
 .have ad:z≠0:=fun h=>by simp_all
  go_region_law (fail);all_goals
   go_wp2_with fail;go_ret2;exact⟨by first|rfl|(rw[aF ad];rfl),F.1.drew⟩
 obtain rfl:z=0:=by simp_all
 replace HS:=aA (HS rfl);clear f1 f2 f3 f4 f5 f6 f7 f8 f9 G H I J K L M N O P c0 c1 T1 T2 T3 T4 T5 T6 T7 T8;have KC:Hid (∀u,Gr W u->FS w k n 0 u):=fun u g=>F.gr g;have a4:Hid (dR k f rs=(eM.zip (oX k f rs)).flatMap mq++10::bl k.body):=rfl;have T:(oX k f rs).length=11:=rfl;have ho:cN ((oX k f rs).map Value.string)=true:=rfl;have b1:=aO k.author;have b2:=cC k.sup;have b3:=cZ k.author;have b4:=gE k.sup;apply zQ (R:=fun x W'=>Hid (W'.heap[x]? =some (aC ((oX k f rs).map Value.string) 204))/\Hid (Gr W W'))
 case h=>
  refine EY (fun u=>Gr W u) [0,1,2,3,5,6,8,9,10,11,12,13,15,16,17,18,19,20,21] (GI 24 [25] [4,7,14,22,23]) (by kernel_rfl) (by kernel_rfl) (fun _ _ _ _ _ h=>h) (Gr.refl W).drew ?_;iterate 19
   refine Ee ⟨_,rfl,rfl,?_⟩;apply Exists.intro;refine⟨?_,?_⟩
   .intro u o
    simp only[fi,eX,fa];obtain⟨f1,f2,f3,f4,f5,f6,f7,f8,f9,G,H,I,J,K,L,M,N,O,P⟩:=jz (KC.out u o).2.1;go_simp;all_goals with_reducible rfl
   simp only[fi,eX,fa,Act.put,fx,eZ,fj]
  have g:=(Gr.refl W).drew;have T3:=Zq k.author;have T6:=Wy k.sup;generalize W.drew=u at*
  repeat' first
   |refine Dj ?_ ?_
   |(first
     |(refine vx rfl rfl ?_ ((T3 u).mono ?_)
       .simp only[fi,eX,fa];go_simp;done)
     |(refine vx rfl rfl ?_ ((T6 u).mono ?_)
       .simp only[fi,eX,fa];go_simp;done)
     |(refine vx rfl rfl ?_ ((D1 u (F.1.trans g)).mono ?_)
       .simp only[fi,eX,fa];go_simp;done)
     |(refine vx rfl rfl ?_ ((D2 u (F.1.trans g)).mono ?_)
       .simp only[fi,eX,fa];go_simp;done)
     rintro _ u ⟨rfl,h⟩;try replace q:=(h.block (aI q)).trans q
     replace g:=g.trans h;clear h;refine⟨_,rfl,g,?_⟩;simp only[fi,eX,fa,Act.put,fx,eZ,fj])
   |(refine rn rfl rfl (v:=.agg ((oX k f rs).map Value.string).toArray) (w':=u) ?_ ⟨g,?_⟩
     .simp only[fi,eX,fa];go_simp<;>rfl
     simp only[fi,eX,fa,Act.put,fx,eZ,fj])
   |(refine rn rfl rfl (v:=.pointer (some ⟨u.heap.size,0,none⟩)) (w':=u.alloc zh) ?_ ⟨g.alloc _,?_⟩
     .simp only[fi,eX,fa];go_simp<;>rfl
     simp only[fi,eX,fa,Act.put,fx,eZ,fj];have q:=aY u zh _ rfl;have hx:=g.size;replace g:=g.alloc zh;generalize u.heap.size=x at*
     generalize u.alloc zh=u at*)
   |(have q0:=aP q 0 11 (by decide)
     have q1:=bE q 0 11;have q2:=aI q;have a9:=IG;have ab:=Mr;refine FR rfl rfl (w':=u.setCells x 0 ((oX k f rs).map Value.string)) ?_ ⟨g.setsOwn hx _ _,?_⟩
     .simp only[fi,eX,fa];go_simp<;>rfl
     exact⟨x,⟨bO q rfl,g.setsOwn hx _ _⟩,rfl⟩)
 rintro x V ⟨hb,hg⟩;generalize oX k f rs=Y at*
 replace hg:=hg.out;obtain⟨m,hm⟩:=ex V.heap.size;obtain⟨D,hV⟩:=ex (V.alloc (.cells #[.pointer none,.slice none 0 0] 207));have B0:Hid (og D m m []):=hV▸og.new V m hm.symm
 have Z:Hid (∀u,Below m D u->Gr V u):=fun u o=>by
  show Below V.heap.size V u;rw[hm];exact vQ (hm▸hV▸(Gr.refl V).alloc _) o
 have a8:Hid (∀u,Below m D u->∀i,i<11->u.cell? ⟨1,i,none⟩=some (.string (eM.getD i eS))):=fun u o i hi=>by
  refine(HW.gr (F.1.trans (hg.trans (Z u o)))) i _ ?_;rw[eD,cO (show i<eM.length from hi)];rfl
 have a7:Hid (∀i,i<11->(eM.getD i eS).size<=12):=by show ∀_,_;decide
 have a3:Hid (∀u l s,s.size<=5020->l.length<=55220->Below m D u->og u m m l->Calls prog 115 #[.pointer (some ⟨m,0,none⟩),.string s] u fun e w'=>∃z,e=.returned (.tuple #[.int .i64 z,.nilIface])/\Hid (og w' m m (l++bl s))/\Hid (Below m D w')):=fun u l s hs T o hB=>
  (aaH m m l s u hB (by omega) (by have:=(Z u o).size;omega)).mono fun _ _ ⟨h1,h2,h3⟩=>⟨_,h1,h2,vQ o h3⟩
 have a2:=aA (NQ Y T HS);have a5:=aA (LB Y T);have a6:=aA (aa8 Y T);obtain⟨x0,x1⟩:hasRow D ⟨x,0,none⟩ 11=true/\rowAt D ⟨x,0,none⟩ 11=Y.map Value.string:=by
  have h:=((Z D (tI _ _)).block (aI hb)).trans hb;exact⟨aP h 0 11 (by rw[cL,T];decide),(bJ h 0 11 (by rw[cL,T];decide)).trans (b_ _ _ (by rw[cL,T]))⟩
 have a9:=IG;have ab:=Mr;have b0:=aA (tI m D);go_wp2_with fail;try simp only[hm,hV]
 go_wp2_with fail
 go_loopw [69] (fun i wr=>∃j:Nat,j<=11/\i=.int .i64 (j:Int)/\Hid (og wr m m (((eM.zip Y).take j).flatMap mq))/\Hid (Below m D wr)) (fun i _=>11-(intOf i).toNat)
 .exact⟨0,by omega,rfl,B0,b0⟩
 .
  obtain⟨j,hj,rfl,hB,o⟩:=hrel;by_cases Q:j<11
  .have q1:(j:Int)<11:=by omega
   have q2:=nn j;have fw:=a8 wr o j Q;have af:=a6 j Q;have s1:=a7 j Q;have s2:=HS (Y[j]'(by omega)) (kA _)
   have HN:=aA (a5 j Q);have HL:=aA (a2 j hj);generalize Y[j]'(by omega)=v at*
   generalize eM.getD j eS=wd at*
   have e:bl (wd++⟨#[32]⟩++v++⟨#[10]⟩)=mq (wd,v):=by rw[xU,xU,xU];rfl
   have C:(wd++⟨#[32]⟩++v++⟨#[10]⟩:ByteArray).size<=5020:=by
    simp only[ni];have h1:(⟨#[32]⟩:ByteArray).size=1:=rfl;have h2:(⟨#[10]⟩:ByteArray).size=1:=rfl;omega
   have p:=a3 wr _ _ C (eu HL (by omega)) o hB;rw[e,<-HN.out]at p;clear e C;go_wp2_with fail;refine p.mono ?_;rintro _ w1 ⟨z,rfl,U,S⟩;go_wp2_with fail;go_roundw
   .exact⟨j+1,by omega,by go_num,U,S⟩
   .simp[intOf];omega
  .obtain rfl:j=11:=by omega
   have q1:¬(11:Int)<11:=by omega
   have fb:wr.cell? ⟨n,74,none⟩=some (.string k.body):=(jz (F.gr (hg.trans (Z wr o))).2.1).body;have C:(⟨#[10]⟩++k.body:ByteArray).size<=5020:=by
    rw[ni];have h2:(⟨#[10]⟩:ByteArray).size=1:=rfl;omega
   have p:=a3 wr _ _ C (a2 11 hj) o hB;rw[eq (by rw[List.length_zip,T];show min 11 11<=11;decide),show bl (⟨#[10]⟩++k.body:ByteArray)=10::bl k.body by rw[xU];rfl,<-a4.out]at p;clear C;go_wp2_with fail;refine p.mono ?_;rintro _ w1 ⟨z,rfl,U,S⟩;go_wp2_with fail;refine(Wn m m _ _ U (by have:=(Z w1 S).size;omega)).mono ?_;rintro _ w2 ⟨rfl,ac⟩;go_wp2_with fail;go_ret2;exact⟨rfl,F.1.trans (hg.trans (Z w2 (vQ S ac)))⟩
end Go.Proofs.YtjfaogajmoffoaaGreatDoor
