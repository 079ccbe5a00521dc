/- Lemmas for VerifyStatus. -/
import Derived.Test.YtjfaogajmoffoaaGreatDoorQPA3
set_option maxRecDepth 100000
set_option maxHeartbeats 16000000
set_option linter.all false
namespace Go.Proofs.YtjfaogajmoffoaaGreatDoor
open Go.RowKit Tryz
structure Bg(w:aB):Prop where
 ev:Ev w
 p:Pw w
 wd:rZ w
 k:Kt w
def Bg.gr{w w':aB}(h:Bg w)(a:Gr w w'):Bg w':=⟨h.ev.gr a,h.p.gr a,h.wd.gr a,h.k.gr a⟩
def jJ(k:bU)(a:bP)(rs:List Id):Id:=if fc k a rs=0 then fX (dR k a rs)else bM
def fK(k:bU)(a:bP)(rs:List Id)(g:Sg):Int:=
 if fc k a rs≠0 then fc k a rs else if fd g≠0 then fd g else if g.leaf≠k.leaf then 17 else kj k.height k.root (cF (dR k a rs)) g
def Kj(k:bU)(a:bP)(rs:List Id)(w:aB)(B:iO k a)(M:fF w k a rs)(j:Bg w)(z:fc k a rs=0):
  Calls prog 33 #[aE (aX k)] w (RG w (.tuple #[aE (bC (fX (dR k a rs))),.int .i64 0])):=by
 obtain⟨n,E⟩:=ex w.heap.size;have R:=aA E;have U:=Jr k a rs B (zn z).2.1;obtain⟨x,C,i,O,c⟩:=gT E (aC (aX k) 46) (aC (bC bM) 26)
 have H:Hid (CG 64 #[aE (aX k)] x (.tuple #[.string (bs (dR k a rs)),.int .i64 0])):=by
  have h:=Ht k a rs x B (M.gr i) (j.ev.gr i) (j.p.gr i) (j.wd.gr i);rw[z,show ue k a rs=bs (dR k a rs) by unfold ue;rw[aG z]]at h;exact h
 have X:=dO k;have Q:=aA (j.k.gr i);have f:=jz O;obtain⟨t,d⟩:=ex (bs (dR k a rs));have m:bl t=dR k a rs:=by rw[<-d];rfl
 have F:t.size=(dR k a rs).length:=by rw[<-bN,m]
 rw[d]at H;obtain⟨y,G⟩:=ex (fX (dR k a rs));have o:bC y=uL (f_ (dR k a rs)):=by rw[<-G,Eb]
 have S:Hid (∀W v,Kt W->gC W v (dR k a rs)->CG 63 #[v] W (aE (bC y))):=fun W v h V=>by
  rw[o];exact Kk v _ W h (by omega) V
 rw[G];have Z:=cC y;have b4:=gE y;replace C:=aA C;clear M j B f o G d;go_in;go_wp2_with fail;try simp only[E]
 change Calls _ _ _ ((w.alloc (aC (aX k) 46)).alloc (aC (bC bM) 26)) _;rw[C.out];refine bA H fun N J=>?_;have g:=aA J;clear J;obtain⟨I,W,T,L,l,D⟩:=EA t _ F N;have q:=aA L;have s:Hid (gC W (aR (N.heap.size) 0 (dR k a rs).length I) (dR k a rs)):=⟨_,I,rfl,D,.inr ⟨_,0,rfl,m▸l⟩⟩;clear L l;go_wp2_with (go_at_call 63;refine bA (S W _ (Q.gr (g.trans q)) s) fun Y K=>?_;have r:=aA ((K.block (aI ((q.block (aI ((g.block (aI c)).trans c))).trans ((g.block (aI c)).trans c)))).trans ((q.block (aI ((g.block (aI c)).trans c))).trans ((g.block (aI c)).trans c)));have q3:=aP r 0 32 (by simp[cC]);have q4:=bE r 0 32;have q5:=aI r);have P:Hid (HB (Y.setCells (n+1) 0 (bC y)) (n+1) (bC y) 26):=bO r (by simp[cC])
 have u:=aA ((i.trans (g.trans (q.trans K))).setsOwn (b:=n+1) (by have:=R.out;omega) (bC y) 0);refine bI (jA rfl _ _ (n+1) _ _ _ _ rfl P underlying26 rfl (DO _)) rfl ?_;exact⟨rfl,u⟩
def aag(k:bU)(a:bP)(rs:List Id)(w:aB)(t:iO k a)(s:fF w k a rs)(d:Bg w)(r:fc k a rs≠0):
  Calls prog 33 #[aE (aX k)] w (RG w (.tuple #[aE (bC bM),.int .i64 (fc k a rs)])):=by
 obtain⟨n,o⟩:=ex w.heap.size;have B:=aA o;obtain⟨j,m,c,v,q⟩:=gT o (aC (aX k) 46) (aC (bC bM) 26)
 have y:Hid (CG 64 #[aE (aX k)] j (.tuple #[.string eS,.int .i64 (fc k a rs)])):=by
  have h:=Ht k a rs j t (s.gr c) (d.ev.gr c) (d.p.gr c) (d.wd.gr c);rw[show ue k a rs=eS by unfold ue;rw[aF r];rfl]at h;exact h
 have D:=dO k;have f:=jz v;have F:=cC bM;have G:=gE bM;have C:(fc k a rs != 0)=true:=by simp[r]
 generalize fc k a rs=z at*
 replace m:=aA m;go_in;go_wp2_with fail;try simp only[o]
 change Calls _ _ _ ((w.alloc (aC (aX k) 46)).alloc (aC (bC bM) 26)) _;rw[m.out];refine bA y fun E l=>?_;have u:=aA l;have g:=aA ((l.block (aI q)).trans q);have H:=aP g 0 32 (by simp[cC]);have I:=bE g 0 32;clear l;go_wp2_with fail;have x:Hid (HB (E.setCells (n+1) 0 (bC bM)) (n+1) (bC bM) 26):=bO g (by simp[cC])
 have i:=aA ((c.trans u).setsOwn (b:=n+1) (by have:=B.out;omega) (bC bM) 0);refine bI (jA rfl _ _ (n+1) _ _ _ _ rfl x underlying26 rfl (DO _)) rfl ?_;exact⟨rfl,i⟩
def ym(k:bU)(a:bP)(rs:List Id)(w:aB)(f:iO k a)(d:fF w k a rs)(c:Bg w):
  Calls prog 33 #[.agg (aX k).toArray] w (RG w (.tuple #[.agg (bC (jJ k a rs)).toArray,.int .i64 (fc k a rs)])):=by
 by_cases b:fc k a rs=0
 .have h:=Kj k a rs w f d c b
  unfold jJ;rw[aG b,b];exact h
 .have h:=aag k a rs w f d c b
  unfold jJ;rw[aF b];exact h
def SC(k:bU)(a:bP)(rs:List Id)(g:Sg)(M:Value)(w:aB)(I:iO k a)(G:fF w k a rs)(F:Bg w)(K:dM w M g.path)(t:fc k a rs≠0):
  Calls prog 51 #[aE (aX k),aE (aW g.leaf g.chains M)] w (RG w (.int .i64 (fc k a rs))):=by
 obtain⟨n,J⟩:=ex w.heap.size;obtain⟨j,l,h⟩:=K.shape;obtain⟨p,i⟩:∃x,g.path.length=x:=⟨_,rfl⟩;rw[i]at h;subst h;obtain⟨o,d⟩:∃x,g.leaf=x:=⟨_,rfl⟩;obtain⟨E,H⟩:∃x,g.chains=x:=⟨_,rfl⟩;rw[d,H];obtain⟨b,u,r,B,C⟩:=gT J (aC (aX k) 46) (aC (aW o E (.slice j p l)) 47)
 obtain⟨y,L⟩:=ex (jJ k a rs);obtain⟨z,m⟩:=ex (fc k a rs);obtain⟨se,v⟩:∃z,fd g=z:=⟨_,rfl⟩
 have s:Hid (∀W,Gr b W->CG 33 #[aE (aX k)] W (.tuple #[aE (bC y),.int .i64 z])):=fun W c=>by
  rw[<-L,<-m];exact ym k a rs W I (G.gr (r.trans c)) (F.gr (r.trans c))
 have U:=dO k;have O:Hid (∀W,Gr b W->wE W (n+1) o E (.slice j p l)/\nS W n k):=fun W c=>⟨kh ((c.block (aI C)).trans C),jz ((c.block (aI B)).trans B)⟩;have V:=cC y;have X:=gE y;have Y:=d_ o E (.slice j p l);have Z:=mn o E j p l;have b5:=h_ k.height k.root;have b6:=bG k.height k.root;replace u:=aA u;obtain⟨q,f⟩:=O.out b (Gr.refl b);have P:=f.w0;have Q:=f.w1;have R:=f.z;rw[m]at t;rw[m];have S:(z==0)=false:=dI.2 t;have T:(z != 0)=true:=by simp[t]
 go_in;go_wp2_with fail;try simp only[J]
 rw[u.out];refine bA (s b (Gr.refl b)) fun w1 D=>?_;have N:=aA D;clear D P Q R;go_wp2_with fail;go_ret;exact⟨rfl,r.trans (N.alloc _)⟩
def Tl(k:bU)(l:bP)(rs:List Id)(g:Sg)(pv:Value)(w:aB)(X:iO k l)(V:fF w k l rs)(U:Bg w)(J:dM w pv g.path)(S:fc k l rs=0)(T:fd g≠0):
  Calls prog 51 #[aE (aX k),aE (aW g.leaf g.chains pv)] w (RG w (.int .i64 (fd g))):=by
 obtain⟨n,Z⟩:=ex w.heap.size;obtain⟨i,j,p⟩:=J.shape;obtain⟨o,r⟩:∃x,g.path.length=x:=⟨_,rfl⟩;rw[r]at p;subst p;obtain⟨t,c⟩:∃x,g.leaf=x:=⟨_,rfl⟩;obtain⟨E,H⟩:∃x,g.chains=x:=⟨_,rfl⟩;rw[c,H];obtain⟨a,I,u,N,O⟩:=gT Z (aC (aX k) 46) (aC (aW t E (.slice i o j)) 47)
 obtain⟨y,hy⟩:=ex (jJ k l rs);obtain⟨z,K⟩:=ex (fc k l rs);obtain⟨se,d⟩:∃z,fd g=z:=⟨_,rfl⟩
 have C:Hid (∀W,Gr a W->CG 33 #[aE (aX k)] W (.tuple #[aE (bC y),.int .i64 z])):=fun W b=>by
  rw[<-hy,<-K];exact ym k l rs W X (V.gr (u.trans b)) (U.gr (u.trans b))
 have B:Hid (∀W,Gr w W->CG 94 #[aE (aW t E (.slice i o j))] W (.int .i64 se)):=fun W b=>by
  have h:=ach g (.slice i o j) W (J.gr b);rw[c,H,d]at h;exact h
 have a2:=dO k;have P:Hid (∀W,Gr a W->wE W (n+1) t E (.slice i o j)/\nS W n k):=fun W b=>⟨kh ((b.block (aI O)).trans O),jz ((b.block (aI N)).trans N)⟩;have b1:=cC y;have b2:=gE y;have b3:=d_ t E (.slice i o j);have b4:=mn t E i o j;have b5:=h_ k.height k.root;have b6:=bG k.height k.root;replace I:=aA I;obtain⟨q,f⟩:=P.out a (Gr.refl a);have D:=f.w0;have F:=f.w1;have G:=f.z;rw[K]at S;rw[d]at T|-
 subst S;have a1:(se != 0)=true:=by simp[T]
 go_in;go_wp2_with fail;try simp only[Z]
 rw[I.out];refine bA (C a (Gr.refl a)) fun v Q=>?_;have L:=aA Q;clear Q D F G;obtain⟨q,f⟩:=P.out (v.alloc (aC (bC y) 26)) (L.out.alloc _);have D:=q.h0;have F:=q.r0;have G:=q.z;clear f q;obtain⟨m,Y⟩:=ex v.heap.size;have hx:=aA (aY v (aC (bC y) 26) m Y.symm);go_wp2_with fail;obtain⟨w2,s⟩:∃W,v.alloc (aC (bC y) 26)=W:=⟨_,rfl⟩;have M:Hid (Gr a w2):=s▸L.out.alloc _
 rw[s]at hx|-
 refine bA (B w2 (u.trans M)) fun w3 R=>?_;have G3:=aA R;clear R;go_wp2_with fail;go_ret;exact⟨rfl,u.trans (M.trans G3)⟩
def SR(k:bU)(o:bP)(rs:List Id)(g:Sg)(pv:Value)(w:aB)(hF:iO k o)(Z:fF w k o rs)(Y:Bg w)(N:dM w pv g.path)(V:fc k o rs=0)(X:fd g=0)(F:g.leaf≠k.leaf):
  Calls prog 51 #[aE (aX k),aE (aW g.leaf g.chains pv)] w (RG w (.int .i64 17)):=by
 obtain⟨n,hn⟩:=ex w.heap.size;obtain⟨j,l,t⟩:=N.shape;obtain⟨p,u⟩:∃x,g.path.length=x:=⟨_,rfl⟩;rw[u]at t;subst t;obtain⟨i,a⟩:∃x,g.leaf=x:=⟨_,rfl⟩;obtain⟨E,L⟩:∃x,g.chains=x:=⟨_,rfl⟩;rw[a,L];obtain⟨b,M,B,R,S⟩:=gT hn (aC (aX k) 46) (aC (aW i E (.slice j p l)) 47)
 obtain⟨y,hy⟩:=ex (jJ k o rs);obtain⟨z,O⟩:=ex (fc k o rs);obtain⟨se,d⟩:∃z,fd g=z:=⟨_,rfl⟩
 have J:Hid (∀W,Gr b W->CG 33 #[aE (aX k)] W (.tuple #[aE (bC y),.int .i64 z])):=fun W c=>by
  rw[<-hy,<-O];exact ym k o rs W hF (Z.gr (B.trans c)) (Y.gr (B.trans c))
 have I:Hid (∀W,Gr w W->CG 94 #[aE (aW i E (.slice j p l))] W (.int .i64 se)):=fun W c=>by
  have h:=ach g (.slice j p l) W (N.gr c);rw[a,L,d]at h;exact h
 have a3:=dO k;have K:Hid (∀W,Gr b W->wE W (n+1) i E (.slice j p l)/\nS W n k):=fun W c=>⟨kh ((c.block (aI S)).trans S),jz ((c.block (aI R)).trans R)⟩;have b1:=cC y;have b2:=gE y;have b3:=d_ i E (.slice j p l);have b4:=mn i E j p l;have b5:=h_ k.height k.root;have b6:=bG k.height k.root;replace M:=aA M;obtain⟨q,f⟩:=K.out b (Gr.refl b);have r:=f.w0;have C:=f.w1;have D:=f.z;rw[O]at V;rw[d]at X;rw[a]at F;subst V;subst X;obtain⟨kl,s⟩:∃x,k.leaf=x:=⟨_,rfl⟩;rw[s]at F;have a1:(i==kl)=false:=dI.2 F;have a2:(i != kl)=true:=by simp[F]
 go_in;go_wp2_with fail;try simp only[hn]
 rw[M.out];refine bA (J b (Gr.refl b)) fun G T=>?_;have P:=aA T;clear T r C D;obtain⟨q,f⟩:=K.out (G.alloc (aC (bC y) 26)) (P.out.alloc _);have r:=q.h0;have C:=q.r0;have D:=q.z;clear f q;obtain⟨m,hm⟩:=ex G.heap.size;have hx:=aA (aY G (aC (bC y) 26) m hm.symm);go_wp2_with fail;obtain⟨w2,v⟩:∃W,G.alloc (aC (bC y) 26)=W:=⟨_,rfl⟩;have H:Hid (Gr b w2):=v▸P.out.alloc _
 rw[v]at hx|-
 refine bA (I w2 (B.trans H)) fun w3 U=>?_;have Q:=aA U;clear U;obtain⟨q,f⟩:=K.out w3 (H.out.trans Q.out);have r:=f.leaf;have C:=q.c0;have D:=f.z;rw[s]at r;clear f q;go_wp2_with fail;go_ret;exact⟨rfl,B.trans (H.trans Q)⟩
def VH(k:bU)(r:bP)(rs:List Id)(g:Sg)(pv:Value)(w:aB)(hF:iO k r)(hC:fF w k r rs)(hB:Bg w)(hp:dM w pv g.path)(h0:fc k r rs=0)(h1:fd g=0)(I:g.leaf=k.leaf):
  Calls prog 51 #[aE (aX k),aE (aW g.leaf g.chains pv)] w (RG w (.int .i64 (kj k.height k.root (cF (dR k r rs)) g))):=by
 obtain⟨n,hn⟩:=ex w.heap.size;obtain⟨d,j,T⟩:=hp.shape;obtain⟨p,U⟩:∃x,g.path.length=x:=⟨_,rfl⟩;rw[U]at T;subst T;obtain⟨s,c⟩:∃x,g.leaf=x:=⟨_,rfl⟩;obtain⟨E,hE⟩:∃x,g.chains=x:=⟨_,rfl⟩;rw[c,hE];obtain⟨B,hU,N,H0,H1⟩:=gT hn (aC (aX k) 46) (aC (aW s E (.slice d p j)) 47)
 obtain⟨y,hy⟩:=ex (jJ k r rs);obtain⟨z,hz⟩:=ex (fc k r rs);obtain⟨se,G⟩:∃z,fd g=z:=⟨_,rfl⟩
 have a2:Hid (∀W,Gr B W->CG 33 #[aE (aX k)] W (.tuple #[aE (bC y),.int .i64 z])):=fun W l=>by
  rw[<-hy,<-hz];exact ym k r rs W hF (hC.gr (N.trans l)) (hB.gr (N.trans l))
 have a1:Hid (∀W,Gr w W->CG 94 #[aE (aW s E (.slice d p j))] W (.int .i64 se)):=fun W l=>by
  have h:=ach g (.slice d p j) W (hp.gr l);rw[c,hE,G]at h;exact h
 obtain⟨F,C⟩:=ex (dR k r rs);have Z:y=fX F:=by rw[<-hy,<-C];unfold jJ;rw[aG h0]
 have M:Hid (∀W,CG 35 #[aE (bC y)] W (aE (bC (cF F)))):=fun W=>by
  rw[Z];exact Ly F W
 have t:Hid (∀W,Gr w W->CG 95 #[aE (aN k.height k.root),aE (bC (cF F)),aE (aW s E (.slice d p j))] W (.int .i64 (kj k.height k.root (cF F) g))):=fun W l=>by
  have h:=VX k.height k.root g (.slice d p j) (cF F) W (hB.gr l).k (hp.gr l);rw[c,hE]at h;exact h
 rw[C];obtain⟨ve,X⟩:∃x,kj k.height k.root (cF F) g=x:=⟨_,rfl⟩;rw[X]at t|-
 obtain⟨D,hD⟩:=ex (cF F);rw[hD]at M t;have a4:=dO k;have KS:Hid (∀W,Gr B W->wE W (n+1) s E (.slice d p j)/\nS W n k):=fun W l=>⟨kh ((l.block (aI H1)).trans H1),jz ((l.block (aI H0)).trans H0)⟩;have b1:=cC y;have b2:=gE y;have b3:=d_ s E (.slice d p j);have b4:=mn s E d p j;have b5:=h_ k.height k.root;have b6:=bG k.height k.root;replace hU:=aA hU;obtain⟨q,f⟩:=KS.out B (Gr.refl B);have H:=f.w0;have O:=f.w1;have P:=f.z;rw[hz]at h0;rw[G]at h1;rw[c]at I;subst h0;subst h1;have a3:=I.symm;clear f q hy hz G c hE U hF hC hB hp C Z X hD I;go_in;go_wp2_with fail;try simp only[hn]
 rw[hU.out];refine bA (a2 B (Gr.refl B)) fun w1 g1=>?_;have G1:=aA g1;clear g1 H O P;obtain⟨q,f⟩:=KS.out (w1.alloc (aC (bC y) 26)) (G1.out.alloc _);have H:=q.h0;have O:=q.r0;have P:=q.z;clear f q;obtain⟨m,hm⟩:=ex w1.heap.size;have hx:=aA (aY w1 (aC (bC y) 26) m hm.symm);go_wp2_with fail;obtain⟨w2,Y⟩:∃W,w1.alloc (aC (bC y) 26)=W:=⟨_,rfl⟩;have J:Hid (Gr B w2):=Y▸G1.out.alloc _
 rw[Y]at hx|-
 refine bA (a1 w2 (N.trans J)) fun w3 g3=>?_;have L:=aA g3;clear g3;obtain⟨q,f⟩:=KS.out w3 (J.out.trans L.out);have H:=f.leaf;have O:=q.c0;have P:=f.z;rw[a3]at H;clear f q;go_wp2_with fail;clear H O P;have HY:Hid (HB w3 m (bC y) 26):=(L.block (aI hx)).trans hx
 have KG:Hid (∀u,Gr w3 u->hasRow u (aD n 56) 17=true/\rowAt u (aD n 56) 17=aN k.height k.root/\hasRow u (aD (n+1) 0) 562=true/\rowAt u (aD (n+1) 0) 562=(aW s E (.slice d p j))/\u.rangeAt m 0 (bC y)):=fun u hu=>by
  obtain⟨q,f⟩:=KS.out u (J.out.trans (L.out.trans hu));have I:=(hu.block (aI HY)).trans HY;refine⟨f.pu0,by rw[f.pu1],q.h0,q.r0,?_⟩;exact Kn (aP I 0 32 (by simp[cC])) ((bJ I 0 32 (by simp[cC])).trans (b_ _ _ (cC y))) (cC y)
 have V:=underlying26;have R:(prog.info? 26).map (·.size)=some (bC y).length:=by rw[cC];kernel_rfl
 refine wp_region_held_drew (S:=(fun u=>hasRow u (aD n 56) 17=true/\rowAt u (aD n 56) 17=aN k.height k.root/\hasRow u (aD (n+1) 0) 562=true/\rowAt u (aD (n+1) 0) 562=(aW s E (.slice d p j))/\u.rangeAt m 0 (bC y))) (by kernel_rfl) (KG _ (Gr.refl w3).drew) (fun a=>?_);refine oa (i:=0) (oi:={ dst:=some 26,op:=Op.fieldAddr 46 (Operand.tmp 2) 10,type:=0,pos:= "canonical.go:263",after:=#[],guard:=none }) (v:=?_) rfl (by kernel_rfl) (by kernel_rfl) (by kernel_rfl) (fun _ _ _ h=>h) (qG ⟨by rfl,?_⟩) (by assumption) ?_;rotate_left
 .intro u b;(try dsimp only at b);go_split_ands;go_simp;all_goals with_reducible rfl
 try simp only[Act.put,fx,eZ,fj]
 refine oa (i:=1) (oi:={ dst:=some 27,op:=Op.load 44 (Operand.tmp 26),type:=44,pos:= "canonical.go:263",after:=#[⟨0,Ground.data⟩],guard:=none }) (v:=?_) rfl (by kernel_rfl) (by kernel_rfl) (by kernel_rfl) (fun _ _ _ h=>h) (qG ⟨by rfl,?_⟩) (by assumption) ?_;rotate_left
 .intro u b;(try dsimp only at b);go_split_ands;go_simp;all_goals with_reducible rfl
 try simp only[Act.put,fx,eZ,fj]
 refine oa (i:=2) (oi:={ dst:=some 28,op:=Op.load 26 (Operand.tmp 5),type:=26,pos:= "canonical.go:263",after:=#[],guard:=none }) (v:=_) rfl (by kernel_rfl) (by kernel_rfl) (by kernel_rfl) (fun _ _ _ h=>h) (L' (by rfl) 26 _ rfl m 0 rfl (bC y) _ (fun u b=>b.2.2.2.2) V rfl R) (by assumption) ?_;try simp only[Act.put,fx,eZ,fj]
 refine oa (i:=4) (oi:={ dst:=some 30,op:=Op.load 47 (Operand.tmp 3),type:=47,pos:= "canonical.go:263",after:=#[],guard:=none }) (v:=?_) rfl (by kernel_rfl) (by kernel_rfl) (by kernel_rfl) (fun _ _ _ h=>h) (qG ⟨by rfl,?_⟩) (by assumption) ?_;rotate_left
 .intro u b;(try dsimp only at b);go_split_ands;go_simp;all_goals with_reducible rfl
 try simp only[Act.put,fx,eZ,fj]
 refine wpAnyH_ready (rs:=[3]) (by kernel_rfl) (by simp) ?_;refine AllReadyH.cons (o:={ dst:=some 29,op:=Op.call { callee:=Callee.value (Operand.func 35),args:=#[Operand.tmp 28],argTypes:=#[26] },type:=22,pos:= "canonical.go:263",after:=#[⟨2,Ground.data⟩],guard:=none }) rfl (fun K Q=>?_) AllReadyH.nil;go_simp;go_at_call 35;refine bA (M _) fun u1 g=>?_;have P1:=Gr.trans (Gr.refl w3).drew g;clear g;try go_wp2_with fail
 refine Q _ _ (KG _ P1) (fun a=>?_);try simp only[Act.put,fx,eZ,fj]
 refine wpAnyH_ready (rs:=[5]) (by kernel_rfl) (by simp) ?_;refine AllReadyH.cons (o:={ dst:=some 31,op:=Op.call { callee:=Callee.value (Operand.func 95),args:=#[Operand.tmp 27,Operand.tmp 29,Operand.tmp 30],argTypes:=#[44,22,47] },type:=56,pos:= "canonical.go:263",after:=#[⟨1,Ground.data⟩,⟨3,Ground.data⟩,⟨4,Ground.data⟩,⟨3,Ground.chain⟩],guard:=none }) rfl (fun K Q=>?_) AllReadyH.nil;go_simp;go_at_call 95;refine bA (t u1 (N.trans (J.trans (L.trans P1)))) fun u2 g=>?_;have P2:=Gr.trans P1 g;clear g;try go_wp2_with fail
 refine Q _ _ (KG _ P2) (fun a=>?_);try simp only[Act.put,fx,eZ,fj]
 refine oa (i:=6) (oi:={ dst:=some 4,op:=Op.assign (Operand.tmp 31),type:=56,pos:= "canonical.go:263",after:=#[⟨5,Ground.data⟩,⟨5,Ground.chain⟩,⟨0,Ground.phase⟩,⟨1,Ground.phase⟩,⟨2,Ground.phase⟩,⟨3,Ground.phase⟩,⟨4,Ground.phase⟩,⟨5,Ground.phase⟩],guard:=none }) (v:=?_) rfl (by kernel_rfl) (by kernel_rfl) (by kernel_rfl) (fun _ _ _ h=>h) (qG ⟨by rfl,?_⟩) (by assumption) ?_;rotate_left
 .intro u b;(try dsimp only at b);go_split_ands;go_simp;all_goals with_reducible rfl
 try simp only[Act.put,fx,eZ,fj]
 refine AW (by kernel_rfl) ?_ _;go_wp2_with fail;go_ret;exact⟨rfl,N.trans (J.trans (L.trans P2))⟩
def LJ(k:bU)(a:bP)(rs:List Id)(g:Sg)(d:Value)(w:aB)(l:iO k a)(j:fF w k a rs)(i:Bg w)(m:dM w d g.path):
  Calls prog 51 #[aE (aX k),aE (aW g.leaf g.chains d)] w (RG w (.int .i64 (fK k a rs g))):=by
 by_cases b:fc k a rs=0
 .by_cases c:fd g=0
  .by_cases f:g.leaf=k.leaf
   .have e:fK k a rs g=kj k.height k.root (cF (dR k a rs)) g:=by
     unfold fK;rw[aF (fun h=>h b),aF (fun h=>h c),aF (fun h=>h f)]
    rw[e];exact VH k a rs g d w l j i m b c f
   .have e:fK k a rs g=17:=by
     unfold fK;rw[aF (fun h=>h b),aF (fun h=>h c),aG f]
    rw[e];exact SR k a rs g d w l j i m b c f
  .have e:fK k a rs g=fd g:=by
    unfold fK;rw[aF (fun h=>h b),aG c]
   rw[e];exact Tl k a rs g d w l j i m b c
 .have e:fK k a rs g=fc k a rs:=by
   unfold fK;rw[aG b]
  rw[e];exact SC k a rs g d w l j i m b
def yP{k:bU}{a:bP}{rs:List Id}{g:Sg}(h:fK k a rs g=0):fc k a rs=0:=by
 by_cases b:fc k a rs=0
 .exact b
 .unfold fK at h;rw[aG b]at h;exact h
def TL(k:bU)(c:bP)(rs:List Id)(g:Sg)(j:Value)(w:aB)(D:iO k c)(C:fF w k c rs)(B:Bg w)(u:dM w j g.path)(a:fK k c rs g≠0):
  Calls prog 22 #[aE (dE k (aW g.leaf g.chains j))] w (RG w (aE (gA jH bM false))):=by
 obtain⟨n,t⟩:=ex w.heap.size;have H:=aA t;obtain⟨P,Q,v⟩:=u.shape;obtain⟨S,i⟩:=ex (aW g.leaf g.chains j);have q:S.length=562:=by rw[<-i];exact d_ _ _ _
 obtain⟨o,r,d,-,x⟩:=gT t (aC (dE k S) 49) (aC (gA jH bM false) 79)
 have y:Hid (∀W,Gr o W->CG 51 #[aE (aX k),aE S] W (.int .i64 (fK k c rs g))):=fun W s=>by
  have h:=LJ k c rs g j W D (C.gr (d.trans s)) (B.gr (d.trans s)) (u.gr (d.trans s));rw[i]at h;exact h
 rw[i];have R:=qL jH bM false;have T:=AO jH EU bM false;have f:=zM (W:=w.alloc (aC (dE k S) 49)) q (aY _ _ n t.symm);obtain⟨I,J,K,L,M⟩:=f;replace r:=aA r;obtain⟨z,E⟩:=ex (fK k c rs g);rw[E]at y a;have N:(z != 0)=true:=by simp[a]
 go_in;go_wp2_with fail;rw[r.out];refine bA (y o (Gr.refl o)) fun O p=>?_;have m:=aA ((p.block (aI x)).trans x);have F:=aA p;clear I J K L M p;have U:=aP m 0 108 (by rw[qL];decide);have V:=bE m 0 108;go_wp2_with fail;have G:Hid (HB (O.setCells (n+1) 0 (gA jH bM false)) (n+1) (gA jH bM false) 79):=bO m (by rw[qL])
 have l:=aA ((d.trans F).setsOwn (b:=n+1) (by have:=H.out;omega) (gA jH bM false) 0);refine bI (dY rfl _ _ (n+1) _ _ _ _ rfl G underlying79 rfl (NI _ _ _)) rfl ?_;exact⟨rfl,l⟩
def acu(k:bU)(c:bP)(rs:List Id)(g:Sg)(x:Value)(w:aB)(G:iO k c)(u:fF w k c rs)(F:Bg w)(J:dM w x g.path)(a:fK k c rs g=0):
  Calls prog 22 #[aE (dE k (aW g.leaf g.chains x))] w (RG w (aE (gA k (fX (dR k c rs)) true))):=by
 obtain⟨n,I⟩:=ex w.heap.size;have Q:=aA I;obtain⟨V,Z,K⟩:=J.shape;obtain⟨S,v⟩:=ex (aW g.leaf g.chains x);have d:S.length=562:=by rw[<-v];exact d_ _ _ _
 obtain⟨o,H,i,m,L⟩:=gT I (aC (dE k S) 49) (aC (gA jH bM false) 79)
 have R:Hid (∀W,Gr o W->CG 51 #[aE (aX k),aE S] W (.int .i64 0)):=fun W j=>by
  have h:=LJ k c rs g x W G (u.gr (i.trans j)) (F.gr (i.trans j)) (J.gr (i.trans j));rw[v,a]at h;exact h
 have l:Hid (∀W,Gr o W->CG 33 #[aE (aX k)] W (.tuple #[aE (bC (fX (dR k c rs))),.int .i64 0])):=fun W j=>by
  have h:=Kj k c rs W G (u.gr (i.trans j)) (F.gr (i.trans j)) (yP a);exact h
 obtain⟨y,O⟩:=ex (fX (dR k c rs));rw[O]at l;rw[v,O];have X:=cC y;have Y:=gE y;have E:=u.one;have f:=zM (W:=w.alloc (aC (dE k S) 49)) d (aY _ _ n I.symm);obtain⟨p,q,r,s,t⟩:=f;replace H:=aA H;go_in;go_wp2_with fail;rw[H.out];refine bA (R o (Gr.refl o)) fun T M=>?_;have z:=aA M;clear p q r s t M;obtain⟨p,q,r,s,t⟩:=zM d ((z.out.block (aI m.out)).trans m.out);go_wp2_with fail;refine bA (l T z) fun U N=>?_;have B:=aA ((z.trans N).alloc (aC (bC y) 26));clear p q r s t N;obtain⟨p,q,r,s,t⟩:=zM d ((B.out.block (aI m.out)).trans m.out);have D:=aA ((B.block (aI L)).trans L);have z0:=aP D 0 108 (by rw[qL];decide);have z1:=bE D 0 108;have e3:=qL k y true;have e4:=AO k E y true;go_wp2_with fail;have P:Hid (HB ((U.alloc (aC (bC y) 26)).setCells (n+1) 0 (gA k y true)) (n+1) (gA k y true) 79):=bO D (by rw[qL,qL])
 have C:=aA ((i.trans B).setsOwn (b:=n+1) (by have:=Q.out;omega) (gA k y true) 0);refine bI (dY rfl _ _ (n+1) _ _ _ _ rfl P underlying79 rfl (NI _ _ _)) rfl ?_;exact⟨rfl,C⟩
def oJ(k:bU)(a:bP)(rs:List Id)(g:Sg):bF:=if fK k a rs g=0 then gA k (jJ k a rs) true else gA jH bM false
def VC(k:bU)(a:bP)(rs:List Id)(g:Sg)(c:Value)(w:aB)(h:iO k a)(f:fF w k a rs)(d:Bg w)(i:dM w c g.path):
  Calls prog 22 #[aE (dE k (aW g.leaf g.chains c))] w (RG w (aE (oJ k a rs g))):=by
 by_cases b:fK k a rs g=0
 .have e:oJ k a rs g=gA k (fX (dR k a rs)) true:=by
   unfold oJ jJ;rw[aG b,aG (yP b)]
  rw[e];exact acu k a rs g c w h f d i b
 .have e:oJ k a rs g=gA jH bM false:=by
   unfold oJ;rw[aF b]
  rw[e];exact TL k a rs g c w h f d i b
end Go.Proofs.YtjfaogajmoffoaaGreatDoor
