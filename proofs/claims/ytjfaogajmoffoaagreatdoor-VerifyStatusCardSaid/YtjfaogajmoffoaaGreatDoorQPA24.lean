/- Lemmas for VerifyStatus. -/
import Derived.Test.YtjfaogajmoffoaaGreatDoorQPA23
set_option maxRecDepth 100000
set_option maxHeartbeats 16000000
set_option linter.all false
namespace Go.Proofs.YtjfaogajmoffoaaGreatDoor
open Go.RowKit Tryz
def DP:om 23 9 1 16:=rE underlying23 (by kernel_rfl) (aH rfl) (aH rfl)
def Pd:om 24 26 32 32:=rE underlying24 (by kernel_rfl) (aH rfl) (aH rfl)
def RL{w:aB}{v:Value}{g:bP}(h:oT w v g):bX w v 1 (g.map fun s=>[Value.string s]):=by
 obtain⟨⟨n,f,e,r⟩,a,c,m,q⟩:=h;refine⟨a,c,by rw[cL];exact m,by rw[cL];exact q,fun j d=>?_⟩;rw[cL]at d;obtain⟨b,k,o,p,l⟩:=r j d;obtain⟨rfl,-⟩:a=n/\True:=by rw[m]at e;simpa using And.left (by simpa using e)
 refine⟨b,k,o,p,?_,?_⟩
 .rw[kr]
  intro i hi;obtain rfl:i=0:=by omega
  rw[fO,ld,ms,l];rfl
 .rw[ig]
  simp only[rowAt,FK,gt,nI,fO,ms,ld,l,nj]
def Yl{w:aB}{v:Value}{g:bP}(h:bX w v 1 (g.map fun s=>[Value.string s])):oT w v g:=by
 obtain⟨a,c,f,i,o⟩:=h;rw[cL]at f i;refine⟨⟨a,c,f,fun j h=>?_⟩,a,c,f,i⟩;obtain⟨b,k,m,n,l,d⟩:=o j (by simpa using h);refine⟨b,k,m,n,?_⟩;obtain⟨u,e⟩:=xG.1 (kr.1 l 0 (aH rfl));rw[ig]at d;simp only[ld]at e d;rw[fO,ms]at e;simp only[rowAt,FK,gt,nI,fO,ms,e,nj,za,xd]at d;rw[e,d]
def aa3(n o p q c:aJ)(f g h:Nat->Value)(d m l:Int)(a b:dB)(e i j k:Nat)(w:aB):(Instr.build 46 #[(0,.string n),(1,aE ((List.range 16).map f)),(2,.int .i64 d),(3,.slice a e i),(4,.string o),(5,.slice b j k),(6,aE ((List.range 32).map g)),(7,.string p),(8,.string q),(9,.int .i64 m),(10,aE ((List.range 17).map h)),(11,.int .i64 l),(12,.string c)]).run prog w
  =.ok (aE (.string n::((List.range 16).map f++(.int .i64 d::.slice a e i::.string o::.slice b j k::((List.range 32).map g++(.string p::.string q::.int .i64 m::((List.range 17).map h++[.int .i64 l,.string c]))))))) w:=by kernel_rfl
def jo(k:bU)(g r:Value):bU:={ k with groups:=g,refs:=r }
@[go_sem] def afW (k:bU) (a b:dB) (c d f g:Nat) (w:aB):eG prog 46 #[(0,.string k.name),(1,aE (bC k.author)),(2,.int .i64 k.date),(3,.slice a c d),(4,.string k.subject),(5,.slice b f g),(6,aE (bC k.sup)),(7,.string k.control),(8,.string k.dist),(9,.int .i64 k.number),(10,aE (aN k.height k.root)),(11,.int .i64 k.leaf),(12,.string k.body)] w
  =.ok (.value (aE (aX (jo k (.slice a c d) (.slice b f g))))) w:=fe (by
 have e:=aa3 k.name k.subject k.control k.dist k.body;show _=Result.ok (Value.agg (aX (jo k _ _)).toArray) w;rw[gi (bC k.author) 16 (aO _),gi (bC k.sup) 32 (cC _),gi (aN k.height k.root) 17 (bG _ _),e];rw[<-gi (bC k.author) 16 (aO _),<-gi (bC k.sup) 32 (cC _),<-gi (aN k.height k.root) 17 (bG _ _)];simp[aX,jo])
def P0(k:bU)(a:bP)(rs:List Id)(w:aB)(hC:fF w k a rs)(aq:a.length<=30)(ar:rs.length<=30):
  Calls prog 24 #[aE (aX k)] w fun e w'=>∃d f l m,e=.returned (aE (aX (jo k (.slice d a.length f) (.slice l rs.length m))))/\(∀V:aB,(∀b,w.heap.size<=b->b<w'.heap.size->V.heap[b]? =w'.heap[b]?)->fF V (jo k (.slice d a.length f) (.slice l rs.length m)) a rs)/\Gr w w':=by
 obtain⟨n,hn⟩:=ex w.heap.size;have HN:=aA hn;obtain⟨⟨-,ga,gc,T,-⟩,⟨ra,rc,K,-,-⟩⟩:=id hC;rw[cL]at K;obtain⟨c,hU,HG,H0,H1⟩:=gT hn (aC (aX k) 28) (aC (aX jH) 46)
 have H:=aA (bX.gr (RL hC.g) HG);have a3:=aA (bX.gr hC.r HG);rw[T]at H;rw[K]at a3;have K0:Hid (∀W:aB,HB W n (aX k) 28->nS W n k/\W.cell? (aD n 56)=some (.int .i64 k.height)/\hasRow W (aD n 57) 16=true/\rowAt W (aD n 57) 16=bC k.root):=fun W I=>
  ⟨sF I,(bH I 56).trans (Ay k),aP I 57 16 (by rw[dO];decide),(bJ I 57 16 (by rw[dO];decide)).trans (Iz k)⟩
 have C:Hid (∀W,Gr c W->HB W n (aX k) 28):=fun W hW=>(hW.block (aI H0)).trans H0
 have ae:Hid (∀V cs,Gr c V->HB (V.setCells (n+1) 0 cs) n (aX k) 28):=fun V cs hV=>(cD (by omega) _ _ _).trans (C V hV)
 have Z:Hid (k.groups=.slice ga a.length gc/\k.refs=.slice ra rs.length rc):=⟨T,K⟩
 have a7:Hid (∀W,Gr c W->hasRow W (aD (n+1) 0) 75=true/\gz W (aD (n+1) 0) 75=true/\n+1<W.heap.size/\HB W (n+1) (aX jH) 46):=fun W hW=>by
  have I:=(hW.block (aI H1)).trans H1;exact⟨aP I 0 75 (by rw[dO];decide),bE I 0 75,aI I,I⟩
 obtain⟨B,hB⟩:=ex c.heap.size;have G:=aA hB;have aa:Hid (n+1<B):=hB▸aI H1
 have P:Hid (∀r∈a.map (fun s=>[Value.string s]),r.length=1):=fun r X=>by obtain⟨x,_,rfl⟩:=iQ.1 X;rfl
 have Q:Hid (∀r∈a.map (fun s=>[Value.string s]),cN r=true):=fun r X=>by obtain⟨x,_,rfl⟩:=iQ.1 X;rfl
 have R:Hid ((a.map (fun s=>[Value.string s])).length=a.length):=cL _;have ab:Hid (∀r∈rs.map bC,r.length=32):=fun r X=>by obtain⟨x,_,rfl⟩:=iQ.1 X;exact cC x
 have ac:Hid (∀r∈rs.map bC,cN r=true):=fun r X=>by obtain⟨x,_,rfl⟩:=iQ.1 X;exact gE x
 have ad:Hid ((rs.map bC).length=rs.length):=cL _;have t:c.drew.heap.size=B:=hB;have G0:=aA (Gr.refl c).drew;have Y:=aA (G0.alloc (.cells #[] 9));have G2:=aA (Y.alloc (.cells #[] 26));have G4:=aA (G0.alloc (.cells #[] 26));have G3:=aA (G4.alloc (.cells #[] 9));have O1:Hid (c_ 9 1 (c.drew.alloc (.cells #[] 9)) B (aR B 0 0 0) []):=by
  have:=c_.empty 9 1 c.drew B (tN t.symm);rw[t]at this;exact this
 have O2:=aA (O1.gr ((Gr.refl _).alloc (.cells #[] 26)));have O3:Hid (c_ 9 1 ((c.drew.alloc (.cells #[] 26)).alloc (.cells #[] 9)) B (aR (B+1) 0 0 0) []):=by
  have:=c_.empty 9 1 (c.drew.alloc (.cells #[] 26)) B (by simp;omega);rw[yC,t]at this;exact this
 have af:Hid (c_ 26 32 ((c.drew.alloc (.cells #[] 9)).alloc (.cells #[] 26)) B (aR (B+1) 0 0 0) []):=by
  have:=c_.empty 26 32 (c.drew.alloc (.cells #[] 9)) B (by simp;omega);rw[yC,t]at this;exact this
 have ag:Hid (c_ 26 32 ((c.drew.alloc (.cells #[] 26)).alloc (.cells #[] 9)) B (aR B 0 0 0) []):=by
  have:=(c_.empty 26 32 c.drew B (tN t.symm)).gr ((Gr.refl _).alloc (.cells #[] 9));rw[t]at this;exact this
 have a4:=aA (show ((c.drew.alloc (.cells #[] 9)).alloc (.cells #[] 26)).heap.size=B+2 by simp;omega)
 have a5:=aA (show ((c.drew.alloc (.cells #[] 26)).alloc (.cells #[] 9)).heap.size=B+2 by simp;omega)
 have ah:=(Gr.refl c).drew;go_in;go_wp2_with fail;try simp only[hn]
 try rw[hU]
 replace hU:=aA hU;refine EY (fun u=>u.heap[n]? =some (aC (aX k) 28)) [0,1,2,3,4,5,7,8,10,11,13,14,16,17,18,19,20,21,22,23,24,25,26,27,28,29,30,31,32] (.alt (.one 6 (.alt (.one 9 (.one 12 (.one 15 (.one 33 (.one 34 .fin))))) (.one 12 (.one 9 (.one 15 (.one 33 (.one 34 .fin))))))) (.one 12 (.one 6 (.one 9 (.one 15 (.one 33 (.one 34 .fin))))))) (by kernel_rfl) (by kernel_rfl) (fun _ _ _ _ _ h=>h) (C _ ah) ?_
 iterate 29
  refine Ee ⟨_,rfl,rfl,?_⟩;apply Exists.intro;refine⟨?_,?_⟩
  .intro u hu
   simp only[fi,eX,fa];obtain⟨⟨f1,f2,f3,f4,f5,f6,f7,f8,f9,ai,aj,ak,-,-,al,am,fz⟩,an,ao,ap⟩:=K0.out u hu;rw[Z.out.1]at f5;rw[Z.out.2]at f7;go_simp;all_goals with_reducible rfl
  simp only[fi,eX,fa,Act.put,fx,eZ,fj]
 show jF _ _ _ _ _ _ _;refine Dj ?_ ?_
 focus
  refine rn (v:=aR B 0 0 0) (w':=c.drew.alloc (.cells #[] 9)) rfl rfl (by simp only[fi,eX,fa];go_simp) ⟨C _ Y,?_⟩;simp only[fi,eX,fa,Act.put,fx,eZ,fj];refine Dj ?_ ?_
  focus
   refine tF (E:=True) rfl rfl (sP DP rfl 12 rfl (.tmp 9) (.tmp 11) rfl B (aR B 0 0 0) [] (by simp[Act.eval]) O1 (.slice ga a.length gc) (a.map fun s=>[Value.string s]) (by simp[Act.eval]) (bX.gr H Y) P Q a.length (by rw[R.out];simp) (by omega) (by have:=Y.size;have:=G.out;omega) ?_);intro d f z y j J;have F:Gr c z:=Y.grown j (fun q i=>by have:=(O1.own i).1;have:=G.out;omega);refine⟨C _ F,?_⟩;simp only[fi,eX,fa,Act.put,fx,eZ,fj];obtain⟨q,i⟩:=ex z.heap.size;have M:Hid ((Value.slice d a.length f).ownBlock≠some q):=fun e=>by have:=(y.own e).2;omega
   have HQ:=aA (show B<=q by rw[<-i,<-G.out];exact F.size)
   have O:Hid (c_ 26 32 (z.alloc (.cells #[] 26)) B (aR q 0 0 0) []):=by
    have:=c_.empty 26 32 z B (by rw[<-G.out];exact F.size);rw[i]at this;exact this
   have N:=aA (y.gr ((Gr.refl z).alloc (.cells #[] 26)));have o:=F.alloc (.cells #[] 26);refine rn (v:=aR q 0 0 0) (w':=z.alloc (.cells #[] 26)) rfl rfl (by simp only[fi,eX,fa];go_simp) ⟨C _ o,?_⟩;simp only[fi,eX,fa,Act.put,fx,eZ,fj];generalize z.alloc (.cells #[] 26)=w5 at*
  rotate_left
  focus
   refine rn (v:=aR (B+1) 0 0 0) (w':=(c.drew.alloc (.cells #[] 9)).alloc (.cells #[] 26)) rfl rfl (by simp only[fi,eX,fa];go_simp) ⟨C _ G2,?_⟩;simp only[fi,eX,fa,Act.put,fx,eZ,fj];refine tF (E:=True) rfl rfl (sP DP rfl 12 rfl (.tmp 9) (.tmp 11) rfl B (aR B 0 0 0) [] (by simp[Act.eval]) O2 (.slice ga a.length gc) (a.map fun s=>[Value.string s]) (by simp[Act.eval]) (bX.gr H G2) P Q a.length (by rw[R.out];simp) (by omega) (by have:=G2.size;have:=G.out;omega) ?_);intro d f z y j J;have F:Gr c z:=G2.grown j (fun q i=>by have:=(O2.own i).1;have:=G.out;omega);refine⟨C _ F,?_⟩;simp only[fi,eX,fa,Act.put,fx,eZ,fj];obtain⟨q,i⟩:=ex (B+1);have M:Hid ((Value.slice d a.length f).ownBlock≠some q):=fun e=>by rcases J with h|h<;>rw[e,<-i]at h<;>simp[Value.ownBlock,a4.out]at h
   have HQ:=aA (show B<=q by omega)
   have O:Hid (c_ 26 32 z B (aR q 0 0 0) []):=by show c_ _ _ _ _ _ _;rw[<-i];exact af.kept j (by simp[Value.ownBlock])
   have N:=aA y;have o:=F;rw[i]
 rotate_left 2
 focus
  refine rn (v:=aR B 0 0 0) (w':=c.drew.alloc (.cells #[] 26)) rfl rfl (by simp only[fi,eX,fa];go_simp) ⟨C _ G4,?_⟩;simp only[fi,eX,fa,Act.put,fx,eZ,fj];refine rn (v:=aR (B+1) 0 0 0) (w':=(c.drew.alloc (.cells #[] 26)).alloc (.cells #[] 9)) rfl rfl (by simp only[fi,eX,fa];go_simp) ⟨C _ G3,?_⟩;simp only[fi,eX,fa,Act.put,fx,eZ,fj];refine tF (E:=True) rfl rfl (sP DP rfl 12 rfl (.tmp 9) (.tmp 11) rfl B (aR (B+1) 0 0 0) [] (by simp[Act.eval]) O3 (.slice ga a.length gc) (a.map fun s=>[Value.string s]) (by simp[Act.eval]) (bX.gr H G3) P Q a.length (by rw[R.out];simp) (by omega) (by have:=G3.size;have:=G.out;omega) ?_);intro d f z y j J;have F:Gr c z:=G3.grown j (fun q i=>by have:=(O3.own i).1;have:=G.out;omega);refine⟨C _ F,?_⟩;simp only[fi,eX,fa,Act.put,fx,eZ,fj];obtain⟨q,i⟩:=ex B;have M:Hid ((Value.slice d a.length f).ownBlock≠some q):=fun e=>by rcases J with h|h<;>rw[e,<-i]at h<;>simp[Value.ownBlock,a5.out]at h
  have HQ:=aA (show B<=q by omega)
  have O:Hid (c_ 26 32 z B (aR q 0 0 0) []):=by show c_ _ _ _ _ _ _;rw[<-i];exact ag.kept j (by simp[Value.ownBlock])
  have N:=aA y;have o:=F;rw[i]
 all_goals
  refine tF (E:=True) rfl rfl (sP Pd rfl 18 rfl (.tmp 15) (.tmp 17) rfl B (aR q 0 0 0) [] (by simp[Act.eval]) O (.slice ra rs.length rc) (rs.map bC) (by simp[Act.eval]) (bX.gr a3 o) ab ac rs.length (by rw[ad.out];simp) (by omega) (by have:=o.size;have:=G.out;omega) ?_);intro l m L U a6 _;have D:Gr c L:=o.grown a6 (fun p hp=>by cases hp;exact eu (tN G) HQ);have S:=N.kept a6 M;obtain⟨z0,z1,z2,z3⟩:=a7.out L D;have r1:=dO (jo k (.slice d a.length f) (.slice l rs.length m));have r2:cN (aX (jo k (.slice d a.length f) (.slice l rs.length m)))=true:=DT _ rfl rfl;refine⟨C _ D,?_⟩;simp only[fi,eX,fa,Act.put,fx,eZ,fj];refine rn (v:=aE (aX (jo k (.slice d a.length f) (.slice l rs.length m)))) (w':=L) rfl rfl (by simp only[fi,eX,fa];go_simp) ⟨C _ D,?_⟩;simp only[fi,eX,fa,Act.put,fx,eZ,fj];refine FR (w':=L.setCells (n+1) 0 (aX (jo k (.slice d a.length f) (.slice l rs.length m)))) rfl rfl (by simp only[fi,eX,fa];go_simp) ⟨ae _ _ D,?_⟩;simp only[fi,eX,fa,Act.put,fx,eZ,fj];refine Hh ?_;have HE:Hid (HB (L.setCells (n+1) 0 (aX (jo k (.slice d a.length f) (.slice l rs.length m)))) (n+1) (aX (jo k (.slice d a.length f) (.slice l rs.length m))) 46):=bO z3 (by rw[dO,dO])
  have a8:=aA ((HG.trans D).setsOwn (b:=n+1) (by have:=HN.out;omega) (aX (jo k (.slice d a.length f) (.slice l rs.length m))) 0)
  have a9:Hid (∀V:aB,(∀b,n<=b->b<(L.setCells (n+1) 0 (aX (jo k (.slice d a.length f) (.slice l rs.length m)))).heap.size->V.heap[b]? =(L.setCells (n+1) 0 (aX (jo k (.slice d a.length f) (.slice l rs.length m)))).heap[b]?)->fF V (jo k (.slice d a.length f) (.slice l rs.length m)) a rs):=fun V hV=>by
   have hk:∀p,B<=p->p<L.heap.size->V.heap[p]? =L.heap[p]? :=fun p h1 h2=>by
    have h4:=aa.out;exact(hV p (by omega) (by rw[kB];exact h2)).trans (cD (by omega) _ _ _)
   exact⟨Yl (S.block fun p hp=>hk p (S.own hp).1 (S.own hp).2).sl,(U.block fun p hp=>hk p (U.own hp).1 (U.own hp).2).sl⟩
  go_wp2_with fail;refine bI (dY rfl _ _ (n+1) _ _ _ _ rfl HE underlying46 rfl (by rw[bQ,dO];kernel_rfl)) rfl ?_;exact⟨d,f,l,m,rfl,by rw[HN.out];exact a9,a8⟩
@[go_sem ↓ high] def afn (w:aB):Sem.run prog (zeroValue 49) w=.ok (aE (dE jH (aW 0 (fun _=>aQ) ke))) w:=by kernel_rfl
def Dg(k:bU)(l:Int)(e:Nat->aK)(p:Value):(dE k (aW l e p)).length=637:=by
 unfold dE;rw[bV,dO,d_]
def WE(x:Sx)(w:aB)(hC:fF w x.k x.gs x.rs)(P:dM w x.pv x.g.path)(K:x.gs.length<=30)(M:x.rs.length<=30)(L:x.g.path.length<=8):
  Calls prog 9 #[aE (gI x)] w fun e w'=>∃(j:bU) (N:Value),e=.returned (aE (dE j (aW x.g.leaf x.g.chains N)))/\(∃g r,j=jo x.k g r)/\fF w' j x.gs x.rs/\dM w' N x.g.path/\Gr w w':=by
 obtain⟨k,gs,rs,⟨d,m,i⟩,pv,aa⟩:=x;dsimp only at hC P K M L|-
 obtain⟨n,hn⟩:=ex w.heap.size;have HN:=aA hn;obtain⟨ap,cp,a9⟩:=P.shape;subst a9;obtain⟨S,I⟩:=ex (aW d m (.slice ap i.length cp));have a8:S.length=562:=by rw[<-I];exact d_ _ _ _
 have a7:S[0]? =some (.int .i64 d):=by rw[<-I];exact wb _ _ _
 show Calls prog 9 #[aE (dE k (aW d m (.slice ap i.length cp)))] w _;rw[I];obtain⟨l,hU,Y,C,T⟩:=gT hn (aC (dE k S) 34) (aC (dE jH (aW 0 (fun _=>aQ) ke)) 49)
 have F:Hid (∀W,Gr l W->HB W n (dE k S) 34):=fun W J=>(J.block (aI C)).trans C
 have a6:Hid (∀V cs,Gr l V->HB (V.setCells (n+1) 0 cs) n (dE k S) 34):=fun V cs hV=>(cD (by omega) _ _ _).trans (F V hV)
 have K0:Hid (∀W:aB,HB W n (dE k S) 34->SF W n k S d):=fun W y=>uH a8 a7 y
 have D:Hid (∀W,Gr l W->hasRow W (aD (n+1) 0) 637=true/\gz W (aD (n+1) 0) 637=true/\n+1<W.heap.size/\HB W (n+1) (dE jH (aW 0 (fun _=>aQ) ke)) 49):=fun W J=>by
  have y:=(J.block (aI T)).trans T;exact⟨aP y 0 637 (by rw[Dg];decide),bE y 0 637,aI y,y⟩
 have T1:=aA (P0 k gs rs l.drew (hC.gr (Y.trans (Gr.refl l).drew)) K M)
 have T2:Hid (∀W,Gr l W->Calls prog 25 #[aE S] W fun e w'=>∃a c,e=.returned (aE (aW d m (.slice a i.length c)))/\(∀V:aB,(∀b,W.heap.size<=b->b<w'.heap.size->V.heap[b]? =w'.heap[b]?)->dM V (.slice a i.length c) i)/\Gr W w'):=fun W J=>by
  rw[<-I];exact YG ⟨d,m,i⟩ _ W (P.gr (Y.trans J)) L
 have s:=(Gr.refl l).drew;replace C:=C;go_in;go_wp2_with fail;try simp only[hn]
 try rw[hU]
 replace hU:=aA hU;refine EY (fun u=>u.heap[n]? =some (aC (dE k S) 34)) [0,1,3,4] (.one 2 (.one 5 (.one 6 (.one 7 .fin)))) (by kernel_rfl) (by kernel_rfl) (fun _ _ _ _ _ h=>h) (F _ s) ?_
 iterate 4
  refine Ee ⟨_,rfl,rfl,?_⟩;apply Exists.intro;refine⟨?_,?_⟩
  .intro u hu
   simp only[fi,eX,fa];obtain⟨h0,r0,h1,r1,-,-,-,-,-,-,-,-,-,-,-,z⟩:=K0.out u hu;go_simp;all_goals with_reducible rfl
  simp only[fi,eX,fa,Act.put,fx,eZ,fj]
 show jF _ _ _ _ _ _ _;refine vx (f:=24) (args:=#[aE (aX k)]) rfl rfl (by simp only[fi,eX,fa];go_simp) ?_;refine T1.mono ?_;rintro e Q ⟨a1,c1,a2,c2,rfl,o,g2⟩;have R:Gr l Q:=s.trans g2;obtain⟨j,t⟩:=ex (jo k (.slice a1 gs.length c1) (.slice a2 rs.length c2));rw[t]at o|-
 have G:=(o Q (fun _ _ _=>rfl)).one;have X:=aA o;have a4:=aA t;have E:Hid (n+1<l.drew.heap.size/\l.drew.heap.size<=Q.heap.size):=⟨(D _ s).2.2.1,g2.size⟩;refine⟨_,rfl,F _ R,?_⟩;simp only[fi,eX,fa,Act.put,fx,eZ,fj];refine vx (f:=25) (args:=#[aE S]) rfl rfl (by simp only[fi,eX,fa];go_simp) ?_;refine(T2 Q R).mono ?_;rintro e O ⟨p,q,rfl,H,g4⟩;have B:Gr l O:=R.trans g4;have a5:=aA H;have U:=aA g4;obtain⟨z0,z1,z2,z3⟩:=D.out O B;have r1:=Dg j d m (.slice p i.length q);have r2:cN (dE j (aW d m (.slice p i.length q)))=true:=by unfold dE;rw[iI,G,mn];rfl
 refine⟨_,rfl,F _ B,?_⟩;simp only[fi,eX,fa,Act.put,fx,eZ,fj];refine rn (v:=aE (dE j (aW d m (.slice p i.length q)))) (w':=O) rfl rfl (by simp only[fi,eX,fa];go_simp) ⟨F _ B,?_⟩;simp only[fi,eX,fa,Act.put,fx,eZ,fj];refine FR (w':=O.setCells (n+1) 0 (dE j (aW d m (.slice p i.length q)))) rfl rfl (by simp only[fi,eX,fa];go_simp) ⟨a6 _ _ B,?_⟩;simp only[fi,eX,fa,Act.put,fx,eZ,fj];refine Hh ?_;have HE:Hid (HB (O.setCells (n+1) 0 (dE j (aW d m (.slice p i.length q)))) (n+1) (dE j (aW d m (.slice p i.length q))) 49):=bO z3 (by rw[r1,Dg])
 have Z:=aA ((Y.trans B).setsOwn (b:=n+1) (by have:=HN.out;omega) (dE j (aW d m (.slice p i.length q))) 0);go_wp2_with fail;refine bI (dY rfl _ _ (n+1) _ _ _ _ rfl HE underlying49 rfl (by rw[bQ,r1];kernel_rfl)) rfl ?_;refine⟨j,_,rfl,⟨_,_,a4.symm⟩,?_,?_,Z⟩
 .refine X _ fun b h1 h2=>?_
  have:=E.out;exact(cD (by omega) _ _ _).trans (U.block h2)
 .refine a5 _ fun b h1 h2=>?_
  have:=E.out;exact cD (by omega) _ _ _
end Go.Proofs.YtjfaogajmoffoaaGreatDoor
