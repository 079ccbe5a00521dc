/- Lemmas for VerifyStatus. -/
import Derived.Test.YtjfaogajmoffoaaGreatDoorQBM
set_option maxRecDepth 100000
set_option maxHeartbeats 16000000
set_option linter.all false
namespace Go.Proofs.YtjfaogajmoffoaaGreatDoor
open Go.RowKit Tryz
def h_(h:Int)(r:cE):cN (aN h r)=true:=by
 show(cN (.int .i64 h::bC r))=true;rw[xg,cZ];rfl
def E8(x:aK):(prog.info? 42).map (fun x=>x.size)=some (bC x).toArray.size:=by
 rw[bQ,aO];kernel_rfl
def LU(h:Int)(r:cE):(prog.info? 44).map (fun x=>x.size)=some (aN h r).toArray.size:=by
 rw[bQ,bG];kernel_rfl
def fL(a:Vector UInt8 32)(h:Int):bF:=bC a++[.int .i64 h]
def p6(a:Vector UInt8 32)(h:Int):(fL a h).length=33:=by unfold fL;rw[bV,cC];rfl
def IX(a:Vector UInt8 32)(h:Int):cN (fL a h)=true:=by unfold fL;simp only[iI,gE];rfl
def Qp(a:Vector UInt8 32)(h:Int):dD (fL a h) 0 32=bC a:=gP _ _ _ (cC _)
def RH(a:Vector UInt8 32)(h:Int):(fL a h)[32]? =some (.int .i64 h):=by
 unfold fL;rw[rR (by rw[cC];exact aU _),cC];rfl
@[go_sem] def afG:dZ prog 55 =true:=by kernel_rfl
@[go_sem] def ahJ:prog.cellsOf 55 =33:=by kernel_rfl
structure mv(W:aB)(b:Nat)(seed:Vector UInt8 32)(h:Int):Prop where
 b:HB W b (fL seed h) 55
def mv.gr{W c:aB}{b:Nat}{a:Vector UInt8 32}{h:Int}(d:mv W b a h)(e:Gr W c):mv c b a h:=⟨(e.block (aI d.b)).trans d.b⟩
structure FN(W:aB)(b:Nat)(seed:Vector UInt8 32)(h:Int):Prop where
 r0:hasRow W (aD b 0) 32=true
 r1:rowAt W (aD b 0) 32=bC seed
 c:W.cell? (aD b 32)=some (.int .i64 h)
 a0:hasRow W (aD b 0) 33=true
 a1:rowAt W (aD b 0) 33=fL seed h
 z:b<W.heap.size
def mv.facts{W:aB}{b:Nat}{a:Vector UInt8 32}{h:Int}(c:mv W b a h):FN W b a h:=
 ⟨aP c.b 0 32 (by rw[p6];decide),(bJ c.b 0 32 (by rw[p6];decide)).trans (Qp _ _),(bH c.b 32).trans (RH _ _),aP c.b 0 33 (by rw[p6];decide),(bJ c.b 0 33 (by rw[p6];decide)).trans (b_ _ _ (p6 _ _)),aI c.b⟩
def Hi(a:Vector UInt8 32)(w:aB):Calls prog 27 #[aE (fL a 1)] w (RG w (.int .i64 0)):=by
 obtain⟨n,g⟩:=ex w.heap.size;have f:Hid (mv (w.alloc (aC (fL a 1) 55)) n a 1):=⟨aY _ _ _ g.symm⟩;have b:Hid (Gr w (w.alloc (aC (fL a 1) 55))):=(Gr.refl w).alloc _;obtain⟨j,k,c,h,i,z⟩:=f.out.facts;have d:Hid (∀W,Calls prog 57 #[.int .i64 1] W fun e w'=>e=.returned (.int .i64 0)/\W=w'):=fun W=>wY 1 W;go_in;go_wp2_with (go_at_call 57;refine dK (d _) ?_);go_ret;exact⟨rfl,b⟩
def il(b:Vector UInt8 32)(a:Nat):aK:=jx a (lm b a).toList
def He(d:Vector UInt8 32)(b a:Nat)(H:a<=65535)(w:aB)(s:Kt w)(x:mv w b d 1):Calls prog 60 #[.int .i64 (a:Int),bZ b] w (RG w (aE (bC (il d a)))):=by
 obtain⟨n,B⟩:=ex w.heap.size;have G:=aA B;have v:Hid (HB (w.alloc (aC (bC aQ) 134)) n (bC aQ) 134):=aY _ _ _ B.symm
 have l:Gr w (w.alloc (aC (bC aQ) 134)):=(Gr.refl w).alloc _;have u:=aA l;obtain⟨P,Q,c,J,K,z⟩:=(x.gr l).facts;have E:=aA s;have r:=aA (ab5 d a H _ (s.gr l));obtain⟨p,t⟩:=ex (lm d a);have F:=aA (show jx a p.toList=il d a by rw[<-t];rfl)
 rw[t]at r;have L:=aO p;have M:=cZ p;go_in;go_wp2_with (go_at_call 61;refine r.mono ?_;clear r;rintro e k ⟨rfl,j⟩);have f:=j.alloc (aC (bC p) 22);have i:gC (k.alloc (aC (bC p) 22)) (aR (k.heap.size) 0 16 16) p.toList:=⟨some (aD (k.heap.size) 0),16,by simp,by simp,.inr ⟨k.heap.size,0,rfl,cS.vec (cM k _)⟩⟩;have m:=Gn a (by omega) _ p.toList (by simp) _ (E.gr (u.trans f)) i;rw[F.out]at m;refine bA m fun I h=>?_;have o:=aA ((u.trans f).trans h);have g:=aA (((f.trans h).block (aI v)).trans v);obtain⟨y,C⟩:=ex (il d a);rw[C];have R:=aP g 0 16 (by simp[aO]);have S:=bE g 0 16;have N:=aO y;have O:=cZ y;clear m h f j i;go_wp2_with fail;have D:Hid (HB (I.setCells n 0 (bC y)) n (bC y) 134):=bO g (by simp[aO])
 have q:=aA (o.setsOwn (b:=n) (by have:=G.out;omega) (bC y) 0);refine bI (dY rfl _ _ n _ _ _ _ rfl D underlying134 rfl (v8 _)) rfl ?_;exact⟨by rw[C],q⟩
def VB(a:Vector UInt8 32)(b:Nat)(w:aB)(z:Kt w)(B:mv w b a 1):Calls prog 59 #[.int .i64 1,.func (.func 60) #[] #[bZ b]] w fun e w'=>∃v,e=.returned v/\dA 134 w' w.heap.size v [il a 0,il a 1]/\Gr w w':=by
 have O:∀args w,(callFunc 60 args).run prog w=.ok (.enter 60 args) w:=lV func60 (by kernel_rfl) rfl;have F:Hid (∀W,Gr w W->CG 60 #[.int .i64 0,bZ b] W (aE (bC (il a 0)))):=fun W i=>He a b 0 (aH rfl) W (z.gr i) (B.gr i);have G:Hid (∀W,Gr w W->CG 60 #[.int .i64 1,bZ b] W (aE (bC (il a 1)))):=fun W i=>He a b 1 (aH rfl) W (z.gr i) (B.gr i);generalize il a 0=x at*
 generalize il a 1=y at*
 go_in;go_wp2_with fail;refine sS 3 ?_;rw[lS];go_wp2_with (first
  |(go_at_call 60;refine bA (F w (Gr.refl w)) fun p c=>?_;have H:Hid (dA 134 (p.alloc (aC (bC x) 134)) 0 (aR (p.heap.size) 0 1 1) [x]):=dA.one (cM p _) (bW _);have N:w.heap.size<=(p.alloc (aC (bC x) 134)).heap.size:=eu c.size (by simp);have r:=aA (c.alloc (aC (bC x) 134));clear c)
  |(at_builtin;refine wq _ rfl _ _ 90 134 rfl underlying90 u' w.heap.size (.slice none 0 0) [] (by simp[Act.eval]) (dA.nil _ _ _) (aR (p.heap.size) 0 1 1) [x] (by simp[Act.eval]) H.nds 1 rfl (aH rfl) N ?_;intro C D E n j;have f:=aA (r.grown j (fun k hk=>by cases hk));have t:Hid (dA 134 E w.heap.size (.slice C 1 D) [x]):=n;clear j n))
 rw[lS];go_wp2_with (first
  |(go_at_call 60;refine bA (G E f) fun q l=>?_;have I:Hid (dA 134 (q.alloc (aC (bC y) 134)) 0 (aR (q.heap.size) 0 1 1) [y]):=dA.one (cM q _) (bW _);have d:=l.alloc (aC (bC y) 134);have g:=aA (f.trans d);have M:w.heap.size<=(q.alloc (aC (bC y) 134)).heap.size:=g.size;have h:=aA (t.gr d);clear l d)
  |(at_builtin;refine wq _ rfl _ _ 90 134 rfl underlying90 u' w.heap.size (.slice C 1 D) [x] (by simp[Act.eval]) h (aR (q.heap.size) 0 1 1) [y] (by simp[Act.eval]) I.nds 2 rfl (aH rfl) M ?_;intro J K L o m;have s:=aA (g.grown m (fun k hk=>(h.own hk).1));have u:Hid (dA 134 L w.heap.size (.slice J 2 K) [x,y]):=o;clear m o))
 rw[lS];go_wp2_with fail;go_ret;exact⟨_,rfl,u,s⟩
def Nd(a:Vector UInt8 32)(w:aB)(h:Kt w):Calls prog 29 #[aE (fL a 1)] w fun e w'=>∃v,e=.returned v/\dA 134 w' w.heap.size v [il a 0,il a 1]/\Gr w w':=by
 obtain⟨n,i⟩:=ex w.heap.size;have f:Hid (mv (w.alloc (aC (fL a 1) 55)) n a 1):=⟨aY _ _ _ i.symm⟩;have b:Hid (Gr w (w.alloc (aC (fL a 1) 55))):=(Gr.refl w).alloc _;have g:=aA (VB a n _ (h.gr b) f);obtain⟨m,o,c,k,l,z⟩:=f.out.facts;go_in;go_wp2_with (go_at_call 59;refine g.mono ?_;rintro e p ⟨v,rfl,j,d⟩);go_ret;exact⟨_,rfl,j.base b.size,b.trans d⟩
def abE(v:Value)(x y:aK)(w:aB)(m:Kt w)(p:dM w v [x,y]):Calls prog 28 #[.int .i64 1,v] w (RG w (.tuple #[aE (aN 1 (ia 1 x y)),.int .i64 0])):=by
 obtain⟨n,o⟩:=ex w.heap.size;have t:=aA o;have l:Hid (HB (w.alloc (aC (aN 0 aQ) 44)) n (aN 0 aQ) 44):=aY _ _ _ o.symm
 have f:Gr w (w.alloc (aC (aN 0 aQ) 44)):=(Gr.refl w).alloc _;have s:=aA f;have k:=aA (OD v x y _ (m.gr f) (p.gr f));obtain⟨j,i⟩:=ex (ia 1 x y);rw[i]at k;rw[i];have u:=aO j;have z:=cZ j;go_in;go_wp2_with (go_at_call 58;refine bA k fun q d=>?_;have a:=aA (((d.alloc (aC (bC j) 134)).block (aI l)).trans l);have g:=aA (s.trans (d.alloc (aC (bC j) 134)));have c:=cM q (aC (bC j) 134);have B:=aP c 0 16 (by simp[aO]);have C:=(bJ c 0 16 (by simp[aO])).trans (b_ _ _ (aO j));have D:=aI c;have E:=aP a 0 17 (by rw[bG];decide);have F:=bE a 0 17;have G:=aI a;have H:=h_ 1 j;have I:=bG 1 j);have r:Hid (HB ((q.alloc (aC (bC j) 134)).setCells n 0 (aN 1 j)) n (aN 1 j) 44):=bO a (by rw[bG,bG])
 have h:=aA (g.setsOwn (b:=n) (by have:=t.out;omega) (aN 1 j) 0);refine bI (jA rfl _ _ n _ _ _ _ rfl r underlying44 rfl (LU _ _)) rfl ?_;exact⟨rfl,h⟩
def pY(a:Vector UInt8 32):aK:=ia 1 (il a 0) (il a 1)
def Ge(a:Vector UInt8 32)(w:aB)(q:Kt w):Calls prog 11 #[aE (fL a 1)] w (RG w (.tuple #[aE (aN 1 (pY a)),.int .i64 0])):=by
 obtain⟨n,M⟩:=ex w.heap.size;have T:=aA M;have H:Hid (mv ((w.alloc (aC (fL a 1) 55)).alloc (aC (aN 0 aQ) 44)) n a 1):=mv.gr ⟨aY _ _ _ M.symm⟩ ((Gr.refl _).alloc _);have I:Hid (HB ((w.alloc (aC (fL a 1) 55)).alloc (aC (aN 0 aQ) 44)) (n+1) (aN 0 aQ) 44):=aY _ _ _ (by simp;omega)
 have S:Hid (Gr w ((w.alloc (aC (fL a 1) 55)).alloc (aC (aN 0 aQ) 44))):=((Gr.refl w).alloc _).alloc _;have r:=aA (Hi a);have t:=aA (Nd a);have k:Hid (∀v W,Kt W->dM W v [il a 0,il a 1]->CG 28 #[.int .i64 1,v] W (.tuple #[aE (aN 1 (pY a)),.int .i64 0])):=fun v W q V=>abE v _ _ W q V;obtain⟨j,E⟩:∃j,pY a=j:=⟨_,rfl⟩;rw[E]at k;rw[E];generalize il a 0=x at*
 generalize il a 1=y at*
 have G:=aA q;obtain⟨O,P,c,K,L,z⟩:=H.out.facts;have Y:=p6 a 1;have z3:=h_ 1 j;have z4:=bG 1 j;go_in;go_wp2_with (go_at_call 27;refine bA (r _) fun Q f=>?_);have l:=aA (H.gr f);have m:=aA ((f.block (aI I)).trans I);have g:=aA (S.trans f);obtain⟨O,P,c,K,L,z⟩:=l.out.facts;apply rH (R:=fun _ _ J=>Hid (HB J (n+1) (aN 1 j) 44)/\Hid (Gr w J))
 case h=>
  go_region_law (first
   |(go_simp;go_at_call 29;refine(t _ (G.gr (g.trans (Gr.refl Q).drew))).mono ?_;rintro e X ⟨v,rfl,N,D⟩;obtain⟨u,B,i⟩:=N.shape;have i:v=.slice u 2 B:=i;subst i;have p:=(Gr.refl Q).drew.trans D;obtain⟨Z,k1,k2,k3,k4,k5⟩:=(l.out.gr p).facts;have F:=N.nds)
   |(go_simp;go_at_call 28;refine bA (k _ X (G.gr (g.trans p)) F) fun w3 o=>?_;have s:=aA ((g.trans p).trans o);have d:=aA (((p.trans o).block (aI m)).trans m);have z0:=aP d 0 17 (by rw[bG];decide);have z1:=bE d 0 17;have z2:=aI d))
  all_goals exact⟨u,B,⟨bO d (by rw[bG,bG]),s.setsOwn (b:=n+1) (by have:=T.out;omega) (aN 1 j) 0⟩,rfl⟩
 rintro u B W ⟨U,C⟩;go_wp2_with fail;refine bI (jA rfl _ _ (n+1) _ _ _ _ rfl U underlying44 rfl (LU _ _)) rfl ?_;exact⟨rfl,C⟩
def TA(r:aK)(w:aB)(p:Kt w):Calls prog 12 #[aE (aN 1 r)] w (RG w (.tuple #[aE (bC (cF (1::r.toList))),.int .i64 0])):=by
 obtain⟨n,q⟩:=ex w.heap.size;have x:=aA q;have g:Hid (HB ((w.alloc (aC (aN 1 r) 44)).alloc (aC (bC aQ) 42)) n (aN 1 r) 44):=(((Gr.refl _).alloc _).block (by simp;omega)).trans (aY _ _ _ q.symm)
 have o:Hid (HB ((w.alloc (aC (aN 1 r) 44)).alloc (aC (bC aQ) 42)) (n+1) (bC aQ) 42):=aY _ _ _ (by simp;omega)
 have m:Hid (Gr w ((w.alloc (aC (aN 1 r) 44)).alloc (aC (bC aQ) 42))):=((Gr.refl w).alloc _).alloc _;have j:Hid (∀W,CG 30 #[aE (aN 1 r)] W (.int .i64 0)):=fun W=>pf 1 r W;have i:Hid (∀W,Calls prog 32 #[aE (aN 1 r)] W fun e w'=>∃v,e=.returned v/\aZ w' W.heap.size v (1::r.toList)/\Gr W w'):=fun W=>Fa 1 r W (aH rfl) (aH rfl);have u:=aA p;have H:=h_ 1 r;have I:=bG 1 r;have B:=aP g 0 17 (by rw[bG];decide);have C:=(bJ g 0 17 (by rw[bG];decide)).trans (b_ _ _ (bG 1 r));have D:=aI g;obtain⟨y,s⟩:∃y,cF (1::r.toList)=y:=⟨_,rfl⟩;have J:=aO y;have K:=cZ y;clear p;go_in;go_wp2_with (first
  |(go_at_call 30;refine bA (j _) fun E c=>?_;have d:=aA ((c.block (aI g)).trans g);have L:=aP d 0 17 (by rw[bG];decide);have M:=(bJ d 0 17 (by rw[bG];decide)).trans (b_ _ _ (bG 1 r));have N:=aI d;clear B C D)
  |(go_at_call 32;refine(i E).mono ?_;rintro e F ⟨v,rfl,z,f⟩)
  |(go_at_call 31;refine(wO v _ F (u.gr ((m.trans c).trans f)) (by simp) z.bytG).mono ?_;rw[s];rintro e G ⟨rfl,h⟩;have k:=aA (((m.trans c).trans f).trans h);have a:=aA ((((c.trans f).trans h).block (aI o)).trans o);have O:=aP a 0 16 (by simp[aO]);have P:=bE a 0 16;have Q:=aI a))
 have t:Hid (HB (G.setCells (n+1) 0 (bC y)) (n+1) (bC y) 42):=bO a (by simp[aO])
 have l:=aA (k.setsOwn (b:=n+1) (by have:=x.out;omega) (bC y) 0);refine bI (jA rfl _ _ (n+1) _ _ _ _ rfl t underlying42 rfl (E8 _)) rfl ?_;exact⟨by rw[s];rfl,l⟩
def ke:Value:=.slice none 0 0
def aW(a:Int)(e:Nat->aK)(p:Value):bF:=.int .i64 a::(cB e++[p])
def d_(a:Int)(e:Nat->aK)(p:Value):(aW a e p).length=562:=by unfold aW;rw[dN,bV,en];rfl
def mn(b:Int)(e:Nat->aK)(a:dB)(n c:Nat):cN (aW b e (.slice a n c))=true:=by
 unfold aW;rw[xg];simp only[iI,uU];rfl
attribute [go_sem] en d_ uU
@[go_sem] def ahz (a:Int) (e:Nat->aK):cN (aW a e ke)=true:=mn a e none 0 0
def sE(a:Int)(e:Nat->aK)(p:Value):(aW a e p)[561]? =some p:=by
 unfold aW;rw[xt,rR (by rw[en];exact aU _),en];rfl
def wb(a:Int)(e:Nat->aK)(p:Value):(aW a e p)[0]? =some (.int .i64 a):=rfl
def Cc(a:Int)(e:Nat->aK)(p:Value):dD (aW a e p) 1 560=cB e:=by
 unfold aW;rw[mr _ _ _ _ (aH rfl),gP _ _ _ (en _)]
def WL(a:Int)(e:Nat->aK)(p q:Value):(aW a e p).set 561 q=aW a e q:=by
 unfold aW;rw[fj,pu _ _ (by rw[en];exact aU _),en];rfl
def QC(l:bF)(n:Nat)(h:l.length=n):l=(List.range n).map fun j=>l.getD j undef:=by
 subst h;apply FJ
 .simp
 .intro i a b
  rw[ig,List.getElem_range,eD,cO a];rfl
def Z1(x:Int)(f:Nat->Value)(w:aB):(Instr.build 47 #[(0,.int .i64 x),(1,aE ((List.range 560).map f))]).run prog w=.ok (aE (.int .i64 x::((List.range 560).map f++[ke]))) w:=by kernel_rfl
def RE(x:Int)(e:Nat->aK)(w:aB):(Instr.build 47 #[(0,.int .i64 x),(1,aE (cB e))]).run prog w=.ok (aE (aW x e ke)) w:=by
 unfold aW;rw[QC (cB e) 560 (en e)];exact Z1 _ _ w
@[go_sem] def agF (x:Int) (e:Nat->aK) (w:aB):eG prog 47 #[(0,.int .i64 x),(1,aE (cB e))] w=.ok (.value (aE (aW x e ke))) w:=fe (RE x e w)
@[go_sem ↓ high] def ag_ (w:aB):Sem.run prog (zeroValue 47) w=.ok (aE (aW 0 (fun _=>aQ) ke)) w:=by kernel_rfl
@[go_sem] def aeJ:dZ prog 47 =true:=by kernel_rfl
@[go_sem] def aeh:prog.cellsOf 47 =562:=by kernel_rfl
def AC(a:Int)(e:Nat->aK)(p:Value):(prog.info? 47).map (fun x=>x.size)=some (aW a e p).toArray.size:=by
 rw[bQ,d_];kernel_rfl
def dA.set{t:TypeId}{w:aB}{base:Nat}{v:Value}{l:List aK}{k:Nat}(h:dA t w base v l)(o:Nat)(u:Value)(a:v.ownBlock≠some k):dA t (w.setCell (aD k o) u) base v l:=h.kept (lG w k o u) a
def Qz(a:Vector UInt8 32)(d:aK)(v:Value)(x y:aK)(w:aB)(hK:Kt w)(hv:dM w v [x,y]):Calls prog 65 #[aE (fL a 1),v,.int .i64 0,aE (bC d)] w fun e w'=>∃O,e=.returned (.tuple #[aE (aW 0 (kI a 0 d) O),.int .i64 0])/\dA 22 w' w.heap.size O [y]/\Gr w w':=by
 obtain⟨n,hn⟩:=ex w.heap.size;have U:=aA hn;obtain⟨U0,C,R,-,H1,H2⟩:=jP hn (aC (fL a 1) 55) (aC (bC d) 22) (aC (aW 0 (fun _=>aQ) ke) 47);have H0:Hid (mv U0 n a 1):=⟨by
  rw[<-C];exact((((Gr.refl _).alloc _).alloc _).block (by simp;omega)).trans (aY _ _ _ (by omega))⟩
 have HP:=aA (acq v x y U0 (hK.gr R) (hv.gr R));have B:Hid (∀W,Kt W->CG 118 #[aE (bC a),.int .i64 0,aE (bC d)] W (.tuple #[aE (cB (kI a 0 d)),.int .i64 0])):=fun W h=>adO a 0 (aH rfl) d W h;obtain⟨E,Z⟩:∃E,kI a 0 d=E:=⟨_,rfl⟩;rw[Z]at B;rw[Z];have HK:=aA hK;have b1:=aO d;have b2:=cZ d;have b3:=cC a;have b4:=gE a;have b5:=en E;have b6:=uU E;replace C:=aA C;clear hK hv Z;go_in;go_wp2_with (first
  |(go_at_call 117;rw[C.out];refine HP.mono ?_;rintro e w1 ⟨O,rfl,J,i⟩;obtain⟨g1,c1,s,a2,a1,a4,I⟩:=J.open (by simp);have s:O=aR g1 0 1 c1:=s;subst s;have d0:=I 0 (by simp);have D:pI w1 g1 0 y:=d0;have P:=aA D;have S1:=aA (H0.gr i);obtain⟨r0,r1,r2,r3,r4,r5⟩:=S1.out.facts;have V:=aA ((i.block (aI H1)).trans H1);have t0:=aP V 0 16 (by simp[aO]);have t1:=(bJ V 0 16 (by simp[aO])).trans (b_ _ _ (aO d));have t2:=aI V;have X:=aA ((i.block (aI H2)).trans H2);have u:=aA (R.trans i);clear I d0 D J i)
  |(go_at_call 118;refine bA (B w1 (HK.gr u)) fun L q=>?_;have j:=q.alloc (aC (cB E) 215);have c:=cM L (aC (cB E) 215);have y4:=aP c 0 560 (by rw[en];decide);have y5:=(bJ c 0 560 (by rw[en];decide)).trans (b_ _ _ (en E));have y6:=aI c;have Q:=aA (P.gr j);have K3:=aA ((j.block (aI X)).trans X);have S:=aA (u.trans j)))
 have l:=(Gr.refl (L.alloc (aC (cB E) 215))).alloc (aC (aW 0 E ke) 47);obtain⟨m,hm⟩:=ex L.heap.size;have G4:=aA (S.trans l);have K4:=aA ((l.block (aI K3)).trans K3);have D4:=aA (Q.gr l);have p:Hid (HB ((L.alloc (aC (cB E) 215)).alloc (aC (aW 0 E ke) 47)) (m+1) (aW 0 E ke) 47):=aY _ _ _ (by simp;omega)
 have M:Hid (n+1+1<m):=by have:=aI X;have:=q.size;show _<_;omega
 rw[hm];generalize(L.alloc (aC (cB E) 215)).alloc (aC (aW 0 E ke) 47)=W4 at*
 have c0:W4.cell? (aD (m+1) 561)=some (.slice none 0 0):=(bH p 561).trans (sE _ _ _);have z0:=aI p;have d1:=D4.h;have d2:=D4.r;have b7:=aO y;have b8:=cZ y;refine sS 2 ?_;rw[lS];have F:=((Gr.refl W4).alloc (aC (bC y) 134));have c:=cM W4 (aC (bC y) 134);have y4:=aP c 0 16 (by simp[aO]);have y5:=(bJ c 0 16 (by simp[aO])).trans (b_ _ _ (aO y));have y6:=aI c;have O8:Hid (dA 22 ((W4.alloc (aC (bC y) 134)).alloc (aC (bC y) 22)) 0 (aR (W4.heap.size+1) 0 1 1) [y]):=dA.one (aY _ _ _ (by simp)) (bW _);have z7:W4.heap.size<=((W4.alloc (aC (bC y) 134)).alloc (aC (bC y) 22)).heap.size:=by simp;omega
 have G:=F.alloc (aC (bC y) 22);go_wp2_with (at_builtin;refine wq _ rfl _ _ 30 22 rfl underlying30 Q2 W4.heap.size (.slice none 0 0) [] (by simp[Act.eval]) (dA.nil _ _ _) (aR (W4.heap.size+1) 0 1 1) [y] (by simp[Act.eval]) O8.nds 1 rfl (aH rfl) z7 ?_;intro f g t K H;have o:=aA (G.grown H (fun k hk=>by cases hk));have z:Hid (dA 22 t W4.heap.size (.slice f 1 g) [y]):=K;have N:=aA ((o.block (aI p)).trans p);have p0:t.cell? (aD (m+1) 561)=some (.slice none 0 0):=(bH N 561).trans (sE _ _ _);have p1:=ee N 561;have p2:=aI N);rw[lS];have S6:Hid (HB (t.setCell (aD (m+1) 561) (.slice f 1 g)) (m+1) (aW 0 E (.slice f 1 g)) 47):=by
  show _=_;rw[fC _ (m+1) 561 _ _ _ N.out];simp;exact WL _ _ _ _
 have Y:Hid (HB (t.setCell (aD (m+1) 561) (.slice f 1 g)) (n+1+1) (aW 0 (fun _=>aQ) ke) 47):=(cG _ (aD (m+1) 561) (n+1+1) _ (by have:=M.out;show n+1+1≠m+1;omega)).trans ((o.block (aI K4)).trans K4)
 have G6:Hid (Gr w (t.setCell (aD (m+1) 561) (.slice f 1 g))):=(G4.trans o).setOwn (by have:=M.out;have:=U.out;omega) _
 have O6:Hid (dA 22 (t.setCell (aD (m+1) 561) (.slice f 1 g)) W4.heap.size (.slice f 1 g) [y]):=z.set 561 _ (fun e=>by
  have h1:=(z.own e).1;have:=aI p;omega)
 generalize t.setCell (aD (m+1) 561) (.slice f 1 g)=W6 at*
 have q0:=aP S6 0 562 (by rw[d_];decide);have q1:=(bJ S6 0 562 (by rw[d_];decide)).trans (b_ _ _ (d_ _ _ _));have q3:=aP Y 0 562 (by rw[d_];decide);have q4:=bE Y 0 562;have q6:=mn 0 E f 1 g;go_wp2_with fail;have HE:Hid (HB (W6.setCells (n+1+1) 0 (aW 0 E (.slice f 1 g))) (n+1+1) (aW 0 E (.slice f 1 g)) 47):=bO Y (by rw[d_,d_])
 have T:=aA (G6.setsOwn (b:=n+1+1) (by have:=U.out;omega) (aW 0 E (.slice f 1 g)) 0);refine bI (jA rfl _ _ (n+1+1) _ _ _ _ rfl HE underlying47 rfl (AC _ _ _)) rfl ?_
 exact⟨.slice f 1 g,rfl,(O6.kept (qK (aW 0 E (.slice f 1 g)) 0 _ (na W6 (some (n+1+1)))) (fun e=>by
  have h1:=(O6.own e).1;have:=aI p;have:=M.out;omega)).base (by rw[U.out];exact eu (by have:=M.out;omega) (pz (aI p))),T⟩
def Re(A:dB->Nat->Value->Act)(R:dB->Nat->Value->aB->Prop)(e:Exit)(a:Act)(w:aB):Prop:=match e with| .normal=>∃x n v,R x n v w/\a=A x n v|_=>False
def XX{P:Program}{c:Code}{Q':Exit->Act->aB->Prop}{a:Act}{w:aB}(A:dB->Nat->Value->Act)(R:dB->Nat->Value->aB->Prop)(h:c.wp P (Re A R) a w)(f:∀x n v W,R x n v W->Q' .normal (A x n v) W):c.wp P Q' a w:=
 qM (fun e a w h=>by cases e<;>first|exact h.elim|(obtain⟨x,n,v,b,d⟩:=h;subst d;exact f x n v w b)) h
def dM.shape{W:aB}{v:Value}{l:List aK}(h:dM W v l):∃a c,v=.slice a l.length c:=by
 obtain⟨a,c,b,_⟩:=h;exact⟨a,c,by rw[b,cL]⟩
def adz(a:Vector UInt8 32)(d:aK)(w:aB)(B:Kt w):Calls prog 34 #[aE (fL a 1),.int .i64 0,aE (bC d)] w fun e w'=>∃c,e=.returned (.tuple #[aE (aW 0 (kI a 0 d) c),.int .i64 0])/\dA 22 w' w.heap.size c [il a 1]/\Gr w w':=by
 obtain⟨n,Z⟩:=ex w.heap.size;have HN:=aA Z;obtain⟨q,C,z,-,U,u⟩:=jP Z (aC (fL a 1) 55) (aC (bC d) 22) (aC (aW 0 (fun _=>aQ) ke) 47);have H0:Hid (mv q n a 1):=⟨by
  rw[<-C];exact((((Gr.refl _).alloc _).alloc _).block (by simp;omega)).trans (aY _ _ _ (by omega))⟩
 have F:=aA (Hi a);have H:=aA (Nd a);have p:=aA (fun v W B hv=>Qz a d v (il a 0) (il a 1) W B hv);obtain⟨E,r⟩:=ex (kI a 0 d);rw[r]at p;rw[r];generalize il a 0=x at*
 generalize il a 1=y at*
 have V:=aA B;have b3:=p6 a 1
 have I:Hid (∀W,Gr q W->FN W n a 1/\hasRow W (aD (n+1) 0) 16=true/\rowAt W (aD (n+1) 0) 16=bC d/\n+1<W.heap.size):=fun W Y=>by
  have Q:=(Y.block (aI U)).trans U;exact⟨(H0.gr Y).facts,aP Q 0 16 (by simp[aO]),(bJ Q 0 16 (by simp[aO])).trans (b_ _ _ (aO d)),aI Q⟩
 replace C:=aA C;obtain⟨⟨r0,r1,r2,r3,r4,r5⟩,t0,t1,t2⟩:=I.out q (Gr.refl q);go_in;go_wp2_with (go_at_call 27;rw[C.out];refine bA (F q) fun w1 j=>?_;have G:=aA j;clear r0 r1 r2 r3 r4 r5 t0 t1 t2;obtain⟨⟨r0,r1,r2,r3,r4,r5⟩,t0,t1,t2⟩:=I.out w1 j;clear j);have s:=G.drew;apply XX (R:=fun _ _ c J=>Hid (HB J (n+1+1) (aW 0 E c) 47)/\Hid (dA 22 J w.heap.size c [y])/\Hid (Gr w J))
 case h=>
  go_region_law (first
   |(go_simp;go_at_call 29;refine(H _ (V.gr (z.trans s))).mono ?_;rintro e w2 ⟨v,rfl,ho,O⟩;obtain⟨K,L,m⟩:=ho.shape;replace m:v=.slice K 2 L:=m;subst m;have o:=s.trans O;obtain⟨⟨k0,k1,k2,k3,k4,k5⟩,k6,k7,k8⟩:=I.out w2 o;have S:=ho.nds)
   |(go_simp;go_at_call 65;refine(p _ w2 (V.gr (z.trans o)) S).mono ?_;rintro e D ⟨c,rfl,l,P⟩;obtain⟨g,i,k⟩:=l.shape;replace k:c=.slice g 1 i:=k;subst k;have T:=o.trans P;have f:=aA ((T.block (aI u)).trans u);have z0:=aP f 0 562 (by rw[d_];decide);have z1:=bE f 0 562;have z2:=aI f;have z3:=mn 0 E g 1 i))
  all_goals (have X:Hid (HB (D.setCells (n+1+1) 0 (aW 0 E (.slice g 1 i))) (n+1+1) (aW 0 E (.slice g 1 i)) 47)/\Hid (dA 22 (D.setCells (n+1+1) 0 (aW 0 E (.slice g 1 i))) w.heap.size (.slice g 1 i) [y])/\Hid (Gr w (D.setCells (n+1+1) 0 (aW 0 E (.slice g 1 i)))):=⟨bO f (by rw[d_,d_]),(l.kept (qK (aW 0 E (.slice g 1 i)) 0 _ (na D (some (n+1+1)))) (fun e=>by have h1:=(l.own e).1;have:=aI ((o.block (aI u)).trans u);omega)).base ((z.trans o).size),(z.trans T).setsOwn (b:=n+1+1) (by have:=HN.out;omega) _ 0⟩)
  all_goals (obtain⟨c,t⟩:∃c:Value,.slice g 1 i=c:=⟨_,rfl⟩;rw[t]at X|-;exact⟨K,L,c,X,rfl⟩)
 rintro K L c W ⟨r,N,M⟩;go_wp2_with fail;refine bI (jA rfl _ _ (n+1+1) _ _ _ _ rfl r underlying47 rfl (AC _ _ _)) rfl ?_;exact⟨c,rfl,N,M⟩
@[go_sem] def ae7 (a:Int) (e:Nat->aK) (p:Value) (h:0<(aW a e p).length):(aW a e p)[0]'h=.int .i64 a:=rfl
@[go_sem] def aht (a:Int) (e:Nat->aK) (p:Value) (h:561<(aW a e p).length):(aW a e p)[561]'h=p:=by
 have:=sE a e p;rw[cO h]at this;exact iP this
attribute [go_sem] Cc sE
@[go_sem] def agE (a:Int) (e:Nat->aK) (p:Value):dD (aW a e p) 0 562=aW a e p:=b_ _ _ (d_ _ _ _)
structure wE(W:aB)(b:Nat)(leaf:Int)(e:Nat->aK)(p:Value):Prop where
 c0:W.cell? (aD b 0)=some (.int .i64 leaf)
 cp:W.cell? (aD b 561)=some p
 h1:hasRow W (aD b 1) 560=true
 r1:rowAt W (aD b 1) 560=cB e
 h0:hasRow W (aD b 0) 562=true
 r0:rowAt W (aD b 0) 562=aW leaf e p
 z:b<W.heap.size
def kh{W:aB}{b:Nat}{a:Int}{e:Nat->aK}{p:Value}(h:HB W b (aW a e p) 47):wE W b a e p:=
 ⟨(bH h 0).trans (wb _ _ _),(bH h 561).trans (sE _ _ _),aP h 1 560 (by rw[d_];decide),(bJ h 1 560 (by rw[d_];decide)).trans (Cc _ _ _),aP h 0 562 (by rw[d_];decide),(bJ h 0 562 (by rw[d_];decide)).trans (b_ _ _ (d_ _ _ _)),aI h⟩
def Nv(b:Nat)(e:Nat->aK)(a:dB)(N c:Nat)(t:1<=N)(u:N<=8)(v:b<2^N)(w:aB):Calls prog 94 #[aE (aW (b:Int) e (.slice a N c))] w (RG w (.int .i64 0)):=by
 obtain⟨n,o⟩:=ex w.heap.size;have k:Hid (HB (w.alloc (aC (aW (b:Int) e (.slice a N c)) 47)) n (aW (b:Int) e (.slice a N c)) 47):=aY _ _ _ o.symm
 have l:Hid (Gr w (w.alloc (aC (aW (b:Int) e (.slice a N c)) 47))):=(Gr.refl w).alloc _;have i:cH (N:Int)=0:=by unfold cH;rw[aF (by omega)]
 have m:Hid (∀W,Calls prog 57 #[.int .i64 (N:Int)] W fun e w'=>e=.returned (.int .i64 0)/\W=w'):=fun W=>by
  have:=wY (N:Int) W;rw[i]at this;exact this
 have d:wrap64 ((2:Int)^N)=((2^N:Nat):Int):=by
  have h:∀N:Fin 9,wrap64 ((2:Int)^N.val)=((2^N.val:Nat):Int):=by decide+kernel
  exact h ⟨N,by omega⟩
 have y:¬wrap64 ((2:Int)^N)<=(b:Int):=by omega
 have B:decide ((b:Int)<0)=false:=by simp
 have C:decide (wrap64 ((2:Int)^N)<=(b:Int))=false:=by simp only[ou];omega
 obtain⟨r,s,-,-,D,E,z⟩:=kh k.out;clear d;go_in;go_wp2_with fail;generalize w.alloc (aC (aW (b:Int) e (.slice a N c)) 47)=g at*
 refine ej (by kernel_rfl) (by kernel_rfl) ?_;have f:Hid (∀p:GD,Calls prog 57 #[.int .i64 (N:Int)] (gw g p) fun e j=>e=.returned (.int .i64 0)/\∃q:GD,j=gw g q):=fun p=>E5 (m _);repeat (go_big_quiet_step ((go_at_call 57;with_reducible exact f.out _)))
 refine cX ?_;rintro _ ⟨q,rfl⟩;go_wp2_with fail;go_ret;exact⟨rfl,l.trans (cK g q)⟩
def aca(f:Nat)(E:f<=65535)(e:Nat->aK)(a:dB)(N c:Nat)(d:aK)(w:aB)(r:Kt w):Calls prog 178 #[aE (aW (f:Int) e (.slice a N c)),aE (bC d)] w (RG w (aE (bC (jB f d e)))):=by
 obtain⟨n,s⟩:=ex w.heap.size;have C:=aA s;obtain⟨D,l,p,v,-,o⟩:=jP s (aC (aW (f:Int) e (.slice a N c)) 47) (aC (bC d) 22) (aC (bC aQ) 22)
 have q:=aA (YU f E d e D (r.gr p));obtain⟨y,t⟩:=ex (jB f d e);rw[t]at q|-
 obtain⟨I,J,M,O,K,L,z⟩:=kh v.out;have F:=aO d;have G:=aO y;have H:=cZ y;replace l:=aA l;go_in;go_wp2_with (go_at_call 209;rw[l.out];refine bA q fun u m=>?_;have h:=m.alloc (aC (bC y) 22);have i:=aA ((h.block (aI o)).trans o);have j:=aA (p.trans h);have g:=cM u (aC (bC y) 22);have P:=aP g 0 16 (by simp[aO]);have Q:=(bJ g 0 16 (by simp[aO])).trans (b_ _ _ (aO y));have R:=aI g;have S:=aP i 0 16 (by simp[aO]);have T:=bE i 0 16;have U:=aI i);have B:Hid (HB ((u.alloc (aC (bC y) 22)).setCells (n+1+1) 0 (bC y)) (n+1+1) (bC y) 22):=bO i (by simp[aO])
 have k:=aA (j.setsOwn (b:=n+1+1) (by have:=C.out;omega) (bC y) 0);refine bI (dY rfl _ _ (n+1+1) _ _ _ _ rfl B underlying22 rfl (rq _)) rfl ?_;exact⟨rfl,k⟩
def ZT(d:Int)(e:Nat->aK)(p:Value)(l:List aK)(G:l≠[])(hl:l.length<=100)(w:aB)(M:dM w p l):Calls prog 180 #[aE (aW d e p)] w fun x w'=>∃v,x=.returned v/\dA 134 w' w.heap.size v l/\Gr w w':=by
 obtain⟨n,L⟩:=ex w.heap.size;have B:=aA L;obtain⟨N,u⟩:=ex l.length;obtain⟨b,k,c,rfl,hc,K⟩:=M.at G N u;have O:Hid (HB (w.alloc (aC (aW d e (aR b k N c)) 47)) n (aW d e (aR b k N c)) 47):=aY _ _ _ L.symm
 have P:Hid (Gr w (w.alloc (aC (aW d e (aR b k N c)) 47))):=(Gr.refl w).alloc _;have Q:=aA K;have j:=aA u;rw[u]at hl;obtain⟨U,W,r2,r3,r0,r1,z⟩:=kh O.out;go_in;go_wp2_with fail;generalize w.alloc (aC (aW d e (aR b k N c)) 47)=U0 at*
 go_loopw [3,9] (fun s i wr=>∃q:Nat,q<=N/\i=.int .i64 (q:Int)/\(∃a c,s=.slice a q c)/\Hid (dA 134 wr n s (l.take q))/\Hid (Gr w wr)) (fun _ i _=>N-(intOf i).toNat)
 .exact⟨0,bW _,rfl,⟨none,0,rfl⟩,dA.nil _ _ _,P⟩
 .
  obtain⟨q,hq,rfl,⟨T,V,rfl⟩,J,t⟩:=hrel;by_cases a2:q<N
  .have Z:(q:Int)<(N:Int):=by omega
   have a1:=nn q
   have o:q<l.length:=by have:=j.out;omega
   have E:=(Q q _ (cO o)).gr t;have C:Hid (l.take q++[l[q]]=l.take (q+1)):=(eF o).symm;have D:=aA (show (l.take q).length=q by rw[dP];omega)
   generalize l[q]=x at*
   have y1:=E.h;have y2:=E.r;have b3:=aO x;have b4:=cZ x;have m:=(Gr.refl wr).alloc (aC (bC x) 22);have g:=cM wr (aC (bC x) 22);have y4:=aP g 0 16 (by simp[aO]);have y5:=(bJ g 0 16 (by simp[aO])).trans (b_ _ _ (aO x));have f:=m.alloc (aC (bC x) 134);have I:=aA (J.gr f);have R:Hid (dA 134 ((wr.alloc (aC (bC x) 22)).alloc (aC (bC x) 134)) 0 (aR (wr.heap.size+1) 0 1 1) [x]):=dA.one (aY _ _ _ (by simp)) (bW _);have z7:n<=((wr.alloc (aC (bC x) 22)).alloc (aC (bC x) 134)).heap.size:=by have:=t.size;have:=f.size;have:=B.out;omega
   have y:=aA (t.trans f);go_wp2_with (at_builtin;refine wq _ rfl _ _ 90 134 rfl underlying90 u' n (.slice T q V) (l.take q) (by simp[Act.eval]) I (aR (wr.heap.size+1) 0 1 1) [x] (by simp[Act.eval]) R.nds (q+1) (by rw[D.out];rfl) (by omega) z7 ?_;intro S n3 w5 H F);go_roundw
   .exact⟨q+1,by omega,by go_num,⟨S,n3,rfl⟩,by show Hid _;rw[<-C.out];exact H,y.grown F (fun k Y=>by have:=(I.own Y).1;have:=B.out;omega)⟩
   .simp[intOf];omega
  .obtain rfl:q=N:=by omega
   have X:l.take q=l:=by rw[<-j.out,jS]
   go_wp2_with fail;go_ret;exact⟨_,rfl,by rw[B.out,<-X];exact J,t⟩
def Gr.keepNew{W X:aB}{o:Obj}(h:Gr (W.alloc o) X):X.heap[W.heap.size]? =some o:=(h.block (by simp)).trans (cM W o)
def Gr.keepNewD{W X:aB}{o:Obj}(h:Gr (W.alloc o).drew X):X.heap[W.heap.size]? =some o:=(h.block (by simp)).trans (cM W o)
def Ag{w:aB}{b:Nat}{cs:bF}{t:TypeId}{n:Nat}(h:HB w b cs t) (c:cs.length=n):w.there b 0 n:=fun j a=>⟨by rw[fB,bH h,cO (by omega)];rfl,ee h _⟩
def TP(A:Nat->dB->Nat->Act)(R:Nat->aB->Prop)(e:Exit)(a:Act)(w:aB):Prop:=match e with| .normal=>∃x s n,R x w/\a=A x s n|_=>False
def XT{P:Program}{c:Code}{Q':Exit->Act->aB->Prop}{a:Act}{w:aB}(A:Nat->dB->Nat->Act)(R:Nat->aB->Prop)(h:c.wp P (TP A R) a w)(f:∀x s n W,R x W->Q' .normal (A x s n) W):c.wp P Q' a w:=
 qM (fun e a w h=>by cases e<;>first|exact h.elim|(obtain⟨x,s,n,b,d⟩:=h;subst d;exact f x s n w b)) h
def Ph(g:Nat)(e:Nat->aK)(p:Value)(l:List aK)(d:aK)(h1:1<=l.length)(h8:l.length<=8)(hl:g<2^l.length)(w:aB)(hK:Kt w)(hp:dM w p l):
  Calls prog 144 #[aE (bC d),aE (aW (g:Int) e p)] w (RG w (.tuple #[aE (bC (kS d ⟨g,e,l⟩)),.int .i64 0])):=by
 obtain⟨n,hn⟩:=ex w.heap.size;have HN:=aA hn;obtain⟨a,c,rfl⟩:=hp.shape;obtain⟨N,Q⟩:=ex l.length;have a8:=aA Q;have ac:g<256:=dQ hl (by exact eu (nR (aH rfl) h8) (aH rfl));rw[Q]at hp h1 h8|-
 have T:g<2^N:=Q▸hl;obtain⟨U0,hU,HG,H0,L,H2⟩:=jP hn (aC (bC d) 22) (aC (aW (g:Int) e (.slice a N c)) 47) (aC (bC aQ) 22)
 have a2:=aA (Nv g e a N c h1 h8 T);have M:Hid (∀W,Kt W->CG 178 #[aE (aW (g:Int) e (.slice a N c)),aE (bC d)] W (aE (bC (jB g d e)))):=fun W h=>aca g (by omega) e a N c d W h;have a7:Hid (∀W,Gr w W->Calls prog 180 #[aE (aW (g:Int) e (.slice a N c))] W fun x w'=>∃v,x=.returned v/\dA 134 w' W.heap.size v l/\Gr W w'):=fun W G=>ZT (g:Int) e _ l (by rintro rfl;simp at Q;omega) (by omega) W (hp.gr G);obtain⟨y,hy⟩:∃y,jB g d e=y:=⟨_,rfl⟩;rw[hy]at M;obtain⟨f,hf⟩:∃f,jx g y.toList=f:=⟨_,rfl⟩;have a5:Hid (∀v W,Kt W->gC W v y.toList->CG 62 #[.int .i64 (g:Int),v] W (aE (bC f))):=fun v W G U=>by rw[<-hf];exact Gn g (by omega) v y.toList (by simp) W G U
 obtain⟨r,hr⟩:=ex (gQ g 0 f l);have a3:Hid (∀v W,Kt W->dM W v l->CG 179 #[aE (bC f),.int .i64 (g:Int),v] W (.tuple #[aE (bC r),.int .i64 0])):=fun v W G U=>by rw[<-hr];exact PN f g v l (by rintro rfl;simp at Q;omega) (by omega) hl W G U
 have a9:=aA (show kS d ⟨g,e,l⟩=r by rw[<-hr,<-hf,<-hy];rfl)
 rw[a9.out];have HK:=aA hK;have b3:=aO y;have b4:=cZ y;have b5:=aO r;have b6:=cZ r
 have KS:Hid (∀W,Gr U0 W->W.cell? (aD (n+1) 0)=some (.int .i64 (g:Int))/\hasRow W (aD (n+1) 0) 562=true/\rowAt W (aD (n+1) 0) 562=aW (g:Int) e (.slice a N c)):=fun W G=>by
  have q:=kh ((G.block (aI L)).trans L);exact⟨q.c0,q.h0,q.r0⟩
 obtain⟨s0,s1,s2⟩:=KS.out U0 (Gr.refl U0);have s3:=aI L;replace hU:=aA hU;go_in;go_wp2_with (first
  |(go_at_call 94;rw[hU.out];refine bA (a2 U0) fun w1 C=>?_;clear s0 s1 s2 s3;obtain⟨s0,s1,s2⟩:=KS.out w1 C;have k0:=(C.block (aI H0)).trans H0;have q0:=aP k0 0 16 (by simp[aO]);have q1:=(bJ k0 0 16 (by simp[aO])).trans (b_ _ _ (aO d));have q2:=aI k0;have s3:n+1<w1.heap.size:=aI ((C.block (aI L)).trans L))
  |(go_at_call 178;refine bA (M w1 (HK.gr (HG.trans C))) fun w2 S=>?_))
 have H:=(C.trans S).alloc (aC (bC y) 22);have I:=cM w2 (aC (bC y) 22);obtain⟨m,hm⟩:=ex w2.heap.size;rw[hm]at I|-
 have a1:Hid (gC (w2.alloc (aC (bC y) 22)) (aR m 0 16 16) y.toList):=⟨some (aD m 0),16,by simp,by simp,.inr ⟨m,0,rfl,cS.vec I⟩⟩;generalize w2.alloc (aC (bC y) 22)=D at*
 have O:Hid (∀W,Gr D W->W.cell? (aD (n+1) 0)=some (.int .i64 (g:Int))/\hasRow W (aD (n+1) 0) 562=true/\rowAt W (aD (n+1) 0) 562=aW (g:Int) e (.slice a N c)):=fun W G=>KS W (H.trans G);have j:=aA (HG.trans H);have J:=aA ((H.block (aI H2)).trans H2);have ab:=O _ (Gr.refl D).drew;have af:=underlying134;have ae:(prog.info? 134).map (·.size)=some (bC r).length:=by rw[aO];kernel_rfl
 have ag:∀v∈bC r,v.oneCell'=true:=fun v U=>by
  have h:=b6;simp only[cN,gY]at h;exact h v U
 apply XT (R:=fun x W'=>Hid (HB W' x (bC r) 134)/\Hid (HB W' (n+1+1) (bC aQ) 22)/\Hid (Gr w W'))
 case h=>
  go_region_held3 (fun u=>u.cell? (aD (n+1) 0)=some (.int .i64 (g:Int))/\hasRow u (aD (n+1) 0) 562=true/\rowAt u (aD (n+1) 0) 562=aW (g:Int) e (.slice a N c)) (first|exact ab|exact O _ (by repeat' (first|exact Gr.refl _|assumption|refine Gr.drew ?_|refine Gr.alloc ?_ _|refine Gr.setsOwn ?_ (by first|exact aU _|exact Y.size|exact Z.size|exact z.size) _ _)))
   (first
    |(go_simp;go_at_call 62;refine bA (a5 _ _ (HK.gr (j.trans (by repeat' (first|exact Gr.refl _|assumption|refine Gr.drew ?_|refine Gr.alloc ?_ _ )))) (a1.gr (by repeat' (first|exact Gr.refl _|assumption|refine Gr.drew ?_|refine Gr.alloc ?_ _ )))) fun w3 o=>?_;have Y:Gr D w3:=Gr.trans (by repeat' (first|exact Gr.refl _|refine Gr.drew ?_|refine Gr.alloc ?_ _ )) o)
    |(go_simp;go_at_call 180;refine(a7 _ (j.trans (by repeat' (first|exact Y|refine Gr.drew ?_|refine Gr.alloc ?_ _ )))).mono ?_;rintro x w4 ⟨v,rfl,ho,s⟩;obtain⟨P,K,V⟩:=ho.shape;rw[a8.out]at V;subst V;have Z:Gr D w4:=Gr.trans (by repeat' (first|exact Y|refine Gr.drew ?_|refine Gr.alloc ?_ _ )) s;have ad:=ho.nds)
    |(go_simp;go_at_call 179;refine bA (a3 _ _ (HK.gr (j.trans (by repeat' (first|exact Z|refine Gr.drew ?_|refine Gr.alloc ?_ _ )))) (ad.gr (by repeat' (first|exact Gr.refl _|refine Gr.drew ?_|refine Gr.alloc ?_ _ )))) fun i B=>?_;have z:Gr D i:=Gr.trans (by repeat' (first|exact Z|refine Gr.drew ?_|refine Gr.alloc ?_ _ )) B;have T0:(i.alloc (aC (bC aQ) 134)).there i.heap.size 0 16:=Ag (cM i _) (aO _);
      first
       |(have T1:i.there D.heap.size 0 16:=Ag ((B.block (aI ((s.block (aI o.keepNewD)).trans o.keepNewD))).trans ((s.block (aI o.keepNewD)).trans o.keepNewD)) (aO _))
       |(have T1:i.there w3.heap.size 0 16:=Ag ((B.block (aI s.keepNew)).trans s.keepNew) (aO _))
       |(have T1:i.there w4.heap.size 0 16:=Ag B.keepNew (aO _))
       |skip))
  all_goals
   have E:n+1+1<D.heap.size:=aI J;first
    |(obtain⟨x,k⟩:∃x,D.heap.size=x:=⟨_,rfl⟩
      have t:=(B.block (aI ((s.block (aI o.keepNewD)).trans o.keepNewD))).trans ((s.block (aI o.keepNewD)).trans o.keepNewD);have X:D.heap.size<=x:=by rw[<-k];exact aU _
      rw[k]at t;have F:Hid (HB (i.setCells x 0 (bC r)) x (bC r) 134)/\Hid (HB (i.setCells x 0 (bC r)) (n+1+1) (bC aQ) 22)/\Hid (Gr w (i.setCells x 0 (bC r))):=⟨bO t (by simp[aO]),(cD (by omega) _ _ _).trans ((z.block E).trans J),(j.trans z).setsOwn (b:=x) (by have:=j.size;omega) _ 0⟩
      rw[k];exact⟨x,P,K,F,rfl⟩)
    |(obtain⟨x,k⟩:∃x,w3.heap.size=x:=⟨_,rfl⟩
      have t:=(B.block (aI s.keepNew)).trans s.keepNew;have X:D.heap.size<=x:=by rw[<-k];exact Y.size
      rw[k]at t;have F:Hid (HB (i.setCells x 0 (bC r)) x (bC r) 134)/\Hid (HB (i.setCells x 0 (bC r)) (n+1+1) (bC aQ) 22)/\Hid (Gr w (i.setCells x 0 (bC r))):=⟨bO t (by simp[aO]),(cD (by omega) _ _ _).trans ((z.block E).trans J),(j.trans z).setsOwn (b:=x) (by have:=j.size;omega) _ 0⟩
      rw[k];exact⟨x,P,K,F,rfl⟩)
    |(obtain⟨x,k⟩:∃x,w4.heap.size=x:=⟨_,rfl⟩
      have t:=B.keepNew;have X:D.heap.size<=x:=by rw[<-k];exact Z.size
      rw[k]at t;have F:Hid (HB (i.setCells x 0 (bC r)) x (bC r) 134)/\Hid (HB (i.setCells x 0 (bC r)) (n+1+1) (bC aQ) 22)/\Hid (Gr w (i.setCells x 0 (bC r))):=⟨bO t (by simp[aO]),(cD (by omega) _ _ _).trans ((z.block E).trans J),(j.trans z).setsOwn (b:=x) (by have:=j.size;omega) _ 0⟩
      rw[k];exact⟨x,P,K,F,rfl⟩)
    |(obtain⟨x,k⟩:∃x,i.heap.size=x:=⟨_,rfl⟩
      have F:Hid (HB (i.alloc (aC (bC r) 134)) x (bC r) 134)/\Hid (HB (i.alloc (aC (bC r) 134)) (n+1+1) (bC aQ) 22)/\Hid (Gr w (i.alloc (aC (bC r) 134))):=⟨aY _ _ _ k.symm,(((Gr.refl i).alloc _).block (by have:=z.size;omega)).trans ((z.block E).trans J),(j.trans z).alloc _⟩
      rw[k];exact⟨x,P,K,F,rfl⟩)
    |(obtain⟨x,k⟩:∃x,i.heap.size=x:=⟨_,rfl⟩
      have F:Hid (HB ((i.alloc (aC (bC aQ) 134)).setCells x 0 (bC r)) x (bC r) 134)/\Hid (HB ((i.alloc (aC (bC aQ) 134)).setCells x 0 (bC r)) (n+1+1) (bC aQ) 22)/\Hid (Gr w ((i.alloc (aC (bC aQ) 134)).setCells x 0 (bC r))):=⟨bO (aY _ _ _ k.symm) (by simp[aO]),(cD (by have:=z.size;omega) _ _ _).trans ((((Gr.refl i).alloc _).block (by have:=z.size;omega)).trans ((z.block E).trans J)),((j.trans z).alloc _).setsOwn (b:=x) (by have:=j.size;have:=z.size;omega) _ 0⟩
      rw[k];exact⟨x,P,K,F,rfl⟩)
    |trace_state
 rintro x s6 K W ⟨k,hz,aa⟩;have q0:=aP k 0 16 (by simp[aO]);have q1:=(bJ k 0 16 (by simp[aO])).trans (b_ _ _ (aO r));have q2:=aI k;have q3:=aP hz 0 16 (by simp[aO]);have q4:=bE hz 0 16;go_wp2_with fail;have HE:Hid (HB (W.setCells (n+1+1) 0 (bC r)) (n+1+1) (bC r) 22):=bO hz (by simp[aO])
 have a4:=aA (aa.setsOwn (b:=n+1+1) (by have:=HN.out;omega) (bC r) 0);refine bI (jA rfl _ _ (n+1+1) _ _ _ _ rfl HE underlying22 rfl (rq _)) rfl ?_;exact⟨rfl,a4⟩
def sb{W:aB}{b:Nat}{h:Int}{r:aK}(a:HB W b (aN h r) 44):W.cell? (aD b 0)=some (.int .i64 h)/\hasRow W (aD b 1) 16=true/\rowAt W (aD b 1) 16=bC r/\hasRow W (aD b 0) 17=true/\rowAt W (aD b 0) 17=aN h r/\b<W.heap.size:=
 ⟨bH a 0,aP a 1 16 (by rw[bG];decide),(bJ a 1 16 (by rw[bG];decide)).trans (by
  show dD (.int .i64 h::bC r) 1 16=_;rw[mr _ _ _ _ (aH rfl),b_ _ _ (aO _)]),aP a 0 17 (by rw[bG];decide),(bJ a 0 17 (by rw[bG];decide)).trans (b_ _ _ (bG h r)),aI a⟩
def WP(h:Int)(f:aK)(hh:1<=h/\h<=8)(b:Nat)(e:Nat->aK)(p:Value)(l:List aK)(d:aK)(k:1<=l.length)(V:l.length<=8)(hl:b<2^l.length)(w:aB)(X:Kt w)(R:dM w p l):
  Calls prog 95 #[aE (aN h f),aE (bC d),aE (aW (b:Int) e p)] w (RG w (.int .i64 (if(l.length:Int)≠h\/kS d ⟨b,e,l⟩≠f then 17 else 0))):=by
 obtain⟨n,hn⟩:=ex w.heap.size;obtain⟨a,c,rfl⟩:=R.shape;obtain⟨N,Y⟩:=ex l.length;obtain⟨P,F,D,O,T,U⟩:=jP hn (aC (aN h f) 44) (aC (bC d) 22) (aC (aW (b:Int) e (.slice a N c)) 47)
 have y:Hid (∀W,CG 30 #[aE (aN h f)] W (.int .i64 0)):=fun W=>by
  have Z:=pf h f W;rw[show cH h=0 by unfold cH;rw[aF (by omega)]]at Z;exact Z
 have B:Hid (∀W,Gr w W->CG 144 #[aE (bC d),aE (aW (b:Int) e (.slice a N c))] W (.tuple #[aE (bC (kS d ⟨b,e,l⟩)),.int .i64 0])):=fun W v=>by
  have:=Ph b e (.slice a l.length c) l d k V hl W (X.gr v) (R.gr v);rw[Y]at this;exact this
 rw[Y];generalize kS d ⟨b,e,l⟩=r at*
 have a1:∀W,Sem.run prog (binOp .neq 22 (aE (bC r)) (aE (bC f))) W=.ok (.bool (!(r==f))) W:=fun W=>YQ underlying22 underlying5 (by kernel_rfl) r f W;have b1:=aO d;have b2:=cZ d;have b3:=aO r;have b4:=cZ r;have b5:=aO f;have b6:=cZ f;have b7:=h_ h f;have b8:=bG h f;have b9:=mn (b:Int) e a N c;have E:Hid (∀W,Gr P W->HB W n (aN h f) 44/\HB W (n+1) (bC d) 22/\HB W (n+1+1) (aW (b:Int) e (.slice a N c)) 47):=fun W v=>⟨(v.block (aI O)).trans O,(v.block (aI T)).trans T,(v.block (aI U)).trans U⟩
 obtain⟨H,I,J,K,L,M⟩:=sb O.out;replace F:=aA F;by_cases t:(N:Int)≠h\/r≠f
 .rw[aG t]
  have G:((N:Int) != h)=true\/(((N:Int) != h)=false/\(r==f)=false):=by
   by_cases k:(N:Int)=h
   .right
    refine⟨by simp[k],dI.2 (t.resolve_left (fun h=>h k))⟩
   .left;simp[k]
  rcases G with G|⟨G,Q⟩
  all_goals
   go_in;go_wp2_with (first
    |(go_at_call 30;rw[F.out];refine bA (y P) fun C g=>?_;clear H I J K L M;obtain⟨u,o,j⟩:=E.out C g;have q0:=aP o 0 16 (by simp[aO]);have q1:=(bJ o 0 16 (by simp[aO])).trans (b_ _ _ (aO d));have q2:=aI o;have q3:=(kh j).h0;have q4:=(kh j).r0;have q5:=(kh j).z;clear u o j)
    |(go_at_call 144;refine bA (B C (D.trans g)) fun S s=>?_;have m:=(g.trans s).alloc (aC (bC r) 22);have i:=cM S (aC (bC r) 22);have y4:=aP i 0 16 (by simp[aO]);have y5:=(bJ i 0 16 (by simp[aO])).trans (b_ _ _ (aO r));have y6:=aI i;obtain⟨u,o,j⟩:=E.out _ m;obtain⟨H,I,J,K,L,M⟩:=sb u;have q6:=(kh j).cp;have q7:=(kh j).z;have q:=aA (D.trans m)))
   go_ret;exact⟨rfl,q⟩
 .rw[aF t]
  have G:((N:Int) != h)=false:=by
   by_cases k:(N:Int)=h
   .simp[k]
   .exact absurd (.inl k) t
  have Q:(r==f)=true:=by
   by_cases k:r=f
   .simp[k]
   .exact absurd (.inr k) t
  go_in;go_wp2_with (first
   |(go_at_call 30;rw[F.out];refine bA (y P) fun C g=>?_;clear H I J K L M;obtain⟨u,o,j⟩:=E.out C g;have q0:=aP o 0 16 (by simp[aO]);have q1:=(bJ o 0 16 (by simp[aO])).trans (b_ _ _ (aO d));have q2:=aI o;have q3:=(kh j).h0;have q4:=(kh j).r0;have q5:=(kh j).z;clear u o j)
   |(go_at_call 144;refine bA (B C (D.trans g)) fun S s=>?_;have m:=(g.trans s).alloc (aC (bC r) 22);have i:=cM S (aC (bC r) 22);have y4:=aP i 0 16 (by simp[aO]);have y5:=(bJ i 0 16 (by simp[aO])).trans (b_ _ _ (aO r));have y6:=aI i;obtain⟨u,o,j⟩:=E.out _ m;obtain⟨H,I,J,K,L,M⟩:=sb u;have q6:=(kh j).cp;have q7:=(kh j).z;have q:=aA (D.trans m)))
  go_ret;exact⟨rfl,q⟩
end Go.Proofs.YtjfaogajmoffoaaGreatDoor
