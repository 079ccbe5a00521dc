/- Lemmas for VerifyStatus. -/
import Derived.Test.YtjfaogajmoffoaaGreatDoorQPA1
import Derived.Test.YtjfaogajmoffoaaGreatDoorQBG
import Derived.Lib.ItoaLen
set_option maxRecDepth 100000
set_option maxHeartbeats 16000000
set_option linter.all false
namespace Go.Proofs.YtjfaogajmoffoaaGreatDoor
open Go.RowKit Tryz
def qV(s:aJ):Int:=(oj (bl s)).2.2
def lC(e:Int)(c:bU):Int:=if c.control.size=0 then e else cQ (cQ (cQ e (!gJ c.control) 3) true (qV c.control)) (!(c.sup==bM)) 11
structure Ev(w:aB):Prop where
 e:ff w
 a:iD w
 m:4 <w.heap.size
def Ev.gr{w w':aB}(h:Ev w)(b:Gr w w'):Ev w':=⟨h.e.gr b,h.a.gr b,dQ h.m b.size⟩
def Ev.grown{w w':aB}{c:Nat}(h:Ev w)(b:w.grownBy w' (some c))(d:4 ≠c)(e:3 ≠c):Ev w':=by
 obtain⟨⟨m,f⟩,a,z⟩:=h;exact⟨⟨m,ur b f (by simp;exact fun h=>d h.symm)⟩,fun i hi=>ur b (a i hi) (by simp;exact fun h=>e h.symm),dQ z b.size⟩
def Oj(b:Nat)(e:Int)(c:bU)(W:aB)(h:oH W b e)(h1:cN (aX c)=true)(hs:c.control.size<=1000000)(U:Ev W)(F:4 ≠b)(G:3 ≠b):
  Calls prog 158 #[bZ b,aE (aX c)] W (tH b (lC e c) W):=by
 obtain⟨n,hn⟩:=ex W.heap.size;obtain⟨p,hU,s,H0⟩:=gO hn (aC (aX c) 46)
 have N:Hid (oH p b e):=h.gr s;have l:Hid (Ev p):=U.gr s;have H:b≠n:=by have:=aI h;omega
 have u:Hid (∀V,p.grownBy V (some b)->nS V n c):=fun V g=>jz (eH g H0 (by simp;exact H));have y:Hid (lC e c=if c.control.size=0 then e else cQ (cQ (cQ e (!gJ c.control) 3) true (qV c.control)) (!(c.sup==bM)) 11):=rfl;have f:=u p (na _ _);have j:=f.control;have r:=f.z;clear h U f;by_cases q:c.control.size=0
 .have i:lC e c=e:=by rw[y.out,aG q]
  have E:c.control=⟨#[]⟩:=by
   have T:=Nm (show c.control.data.size=0 from q)
   cases hc:c.control with|mk d=>rw[hc]at T;exact ei ByteArray.mk T
  rw[E]at j;go_in;go_wp2_with fail;refine bI (xT rfl _ _ _) rfl ?_;exact⟨rfl,by rw[i];exact N,dW (row:=some b) s⟩
 .have i:lC e c=cQ (cQ (cQ e (!gJ c.control) 3) true (qV c.control)) (!(c.sup==bM)) 11:=by rw[y.out,aF q]
  have B:=aA i;have a1:c.control.toList.isEmpty=false:=by rw[hI,tp];intro h;exact q (by rw[<-bN,h];rfl)
  have x:Hid (∀V,ff V->Calls prog 189 #[.string c.control] V fun e w'=>e=.returned (.bool (gJ c.control))/\V=w'):=fun V g=>MS c.control V hs g;have HPR:Hid (∀V,Ev V->Calls prog 191 #[.string c.control] V (jX (oj (bl c.control)) V)):=fun V g=>ab8 c.control V g.e g.a g.m;have o:Hid (qV c.control=(oj (bl c.control)).2.2):=rfl;have w:=aA (xi c.sup);have b1:=cC c.sup;have b2:=gE c.sup;generalize qV c.control=X at*
  generalize gJ c.control=sq at*
  generalize(c.sup==bM)=zb at*
  unfold jX at HPR;generalize oj (bl c.control)=P at*
  obtain⟨d,k,er⟩:=P;simp only at HPR o;have I:X=er:=o;subst I;go_in;go_wp2_with fail;refine dK (x _ l.e) ?_;go_wp2_with fail;refine(rB b e (!sq) 3 p N).mono ?_;rintro e2 Y ⟨rfl,O,R⟩;have t:=aA R;have C2:=aA O;have f:=u Y t;have j:=f.control;have r:=f.z;go_wp2_with fail;refine(HPR Y (l.grown t F G)).mono ?_;rintro e3 Z ⟨v,rfl,i,C⟩;obtain⟨K,L,J⟩:∃K L,v=.slice K (d.mods.map bC).length L:=by obtain⟨a,c,h,_⟩:=i;exact⟨a,c,h⟩
  subst J;generalize(d.mods.map bC).length=vm at*
  have G3:=aA (dG t (dW (row:=some b) C));have C3:=aA (C2.gr C);go_wp2_with fail;have GA:=aA (dG G3 (dW (row:=some b) ((Gr.refl Z).alloc (aC (aL d (.slice K vm L)) 87))));refine(Jk b _ X _ (C3.gr ((Gr.refl Z).alloc _))).mono ?_;rintro e4 w4 ⟨rfl,Q,S⟩;have M:=aA (dG GA S);have C4:=aA Q;have f:=u w4 M;have j:=f.su0;have r:=f.su1;go_wp2_with fail;refine bA (w w4) fun w5 D=>?_;have G5:=aA (dG M (dW (row:=some b) D));have C5:=aA (C4.gr D);clear j r D;go_wp2_with fail;refine(rB b _ (!zb) 11 w5 C5).mono ?_;rintro e6 w6 ⟨rfl,c6,g6⟩;go_wp2_with fail;refine pM (fn:=Tryz.f158) rfl rfl ?_;exact⟨rfl,by rw[B.out];exact c6,dG (dW (row:=some b) s) (dG G5 g6)⟩
structure fF(W:aB)(k:bU)(gs:bP)(rs:List Id):Prop where
 g:oT W k.groups gs
 r:nX W k.refs rs
def fF.gr{W a:aB}{k:bU}{b:bP}{rs:List Id}(h:fF W k b rs)(c:Gr W a):fF a k b rs:=⟨h.g.gr c,bX.gr h.r c⟩
def fF.one{W:aB}{k:bU}{b:bP}{rs:List Id}(h:fF W k b rs):cN (aX k)=true:=by
 obtain⟨⟨_,a,c,d,_⟩,⟨f,g,e,_⟩⟩:=h;exact DT k (by rw[d];rfl) (by rw[e];rfl)
structure Sm(k:bU)(gs:bP):Prop where
 n:k.name.size<=1000000
 s:k.subject.size<=1000000
 c:k.control.size<=1000000
 d:k.dist.size<=1000000
 b:k.body.size<=1000000
 g:gs.length<=1000000
 z:(gs.map (·.size)).sum<=1000000
def mG(k:bU):Bool:=decide (k.date<0)||decide (105190559<k.date)
def o8(k:bU):Bool:=decide (k.number<0)||decide (1000<k.number)
def ry(h:Int):Int:=if cH h=0 then 2^h.toNat else 0
def oL(k:bU):Bool:=decide (k.leaf<0)||decide (ry k.height<=k.leaf)
def fc(k:bU)(a:bP)(rs:List Id):Int:=
 cQ (cQ (cQ (cQ (cQ (oZ (lC (cQ (kF (cQ (cQ (kF 0 k.name 60) (mG k) 13) true (kG a)) k.subject 200) true (gq rs)) k) k.dist) (o8 k) 2) true (cH k.height)) (oL k) 2) (decide (57344<k.body.size)) 5) true (o3 k.body)
def adl(h:Int)(r:aK)(w:aB):Calls prog 160 #[aE (aN h r)] w (RG w (.int .i64 (ry h))):=by
 obtain⟨n,q⟩:=ex w.heap.size;have d:Hid (HB (w.alloc (aC (aN h r) 44)) n (aN h r) 44):=aY _ _ _ q.symm
 have g:Hid (Gr w (w.alloc (aC (aN h r) 44))):=(Gr.refl w).alloc _;have b:=aA (pf h r);obtain⟨i,j,l,m,o,p⟩:=sb d.out;have v:=h_ h r;have x:=bG h r;by_cases hh:cH h=0
 .have c:ry h=2^h.toNat:=by unfold ry;rw[aG hh]
  have f:h=1\/h=2\/h=3\/h=4\/h=5\/h=6\/h=7\/h=8:=by
   unfold cH at hh;by_cases k:h<1\/8<h
   .rw[aG k]at hh;cases hh
   .omega
  rw[hh]at b;rw[c];rcases f with rfl|rfl|rfl|rfl|rfl|rfl|rfl|rfl
  all_goals
   go_in;go_wp2_with (go_at_call 30;refine bA (b _) fun u a=>?_;have t:=(a.block (aI d)).trans d;clear i j l m o p;obtain⟨i,j,l,m,o,p⟩:=sb t);go_ret;exact⟨rfl,g.trans a⟩
 .have c:ry h=0:=by unfold ry;rw[aF hh]
  rw[c];generalize cH h=z at*
  have s:(z != 0)=true:=by simp[hh]
  go_in;go_wp2_with (go_at_call 30;refine bA (b _) fun u a=>?_);go_ret;exact⟨rfl,g.trans a⟩
def FS(w:aB)(k:bU)(n:Nat)(z:Int)(W:aB):Prop:=Gr w W/\HB W n (aX k) 46/\oH W (n+1) z
def FS.gr{w W a:aB}{k:bU}{n:Nat}{z:Int}(h:FS w k n z W)(g:Gr W a):FS w k n z a:=⟨h.1.trans g,(g.block (aI h.2.1)).trans h.2.1,h.2.2.gr g⟩
def FS.w{w W:aB}{k:bU}{n:Nat}{z:Int}(h:FS w k n z W):Gr w W:=h.1
def FS.call{w W:aB}{k:bU}{n:Nat}{z:Int}{f:FuncId}{args:Array Value}{v:Value}(h:FS w k n z W)(a:Calls prog f args W (RG W v)):Calls prog f args W fun e w'=>e=.returned v/\FS w k n z w':=
 a.mono fun _ _ q=>⟨q.1,h.gr q.2⟩
def FS.ck{w W:aB}{k:bU}{n:Nat}{z y:Int}{f:FuncId}{args:Array Value}(b:w.heap.size=n)(h:FS w k n z W)(a:Calls prog f args W (tH (n+1) y W)):Calls prog f args W fun e w'=>e=.returned (.tuple #[])/\FS w k n y w':=
 a.mono fun _ _ q=>⟨q.1,h.1.grown q.2.2 (fun i hi=>by have h:n+1=i:=iP hi;omega),eH q.2.2 h.2.1 (by simp),q.2.1⟩
def FS.take{w W:aB}{k:bU}{n:Nat}{z:Int}(x:Int)(a:w.heap.size=n)(h:FS w k n z W):Calls prog 107 #[bZ (n+1),.int .i64 x] W fun e w'=>e=.returned (.tuple #[])/\FS w k n (cQ z true x) w':=
 h.ck a (Jk (n+1) z x W h.2.2)
def OI(k:bU)(X:bP)(rs:List Id)(w:aB)(R:Sm k X)(T:fF w k X rs)(Q:Ev w):
  Calls prog 108 #[aE (aX k)] w (RG w (.int .i64 (fc k X rs))):=by
 obtain⟨n,S⟩:=ex w.heap.size;obtain⟨U0,hU,HG,H0,H1⟩:=gT S (aC (aX k) 46) (.cells #[.int .i64 0] 199);have a5:=T.one;have a8:=dO k;have F:Hid (FS w k n 0 U0):=⟨HG,H0,H1⟩;have U:4≠n+1:=by have:=Q.m;omega
 have a6:3≠n+1:=by have:=Q.a.lt;omega
 have TX:=aA (fun s m (hs:s.size<=1000000) z W (h:FS w k n z W)=>h.ck S (QZ (n+1) z s m W h.2.2 hs (Q.e.gr h.1) U));have V:=aA (fun b b' x z W (hb:b=b') (h:FS w k n z W)=>show Calls prog 155 #[bZ (n+1),.bool b,.int .i64 x] W fun e w'=>e=.returned (.tuple #[])/\FS w k n (cQ z b' x) w' from hb▸h.ck S (rB (n+1) z b x W h.2.2));have TK:=aA (fun x z W (h:FS w k n z W)=>h.take x S);have T3:=aA (fun z W (h:FS w k n z W)=>h.call (Kq X k.groups W (Q.e.gr h.1) (T.g.gr h.1) R.g R.z));have T5:=aA (fun z W (h:FS w k n z W)=>h.call (H' rs k.refs W (bX.gr T.r h.1)));have T6:=aA (fun z W (h:FS w k n z W)=>h.ck S (Oj (n+1) z k W h.2.2 a5 R.c (Q.gr h.1) U a6));have T7:=aA (fun z W (h:FS w k n z W)=>h.ck S (aaX (n+1) z k.dist W h.2.2 R.d));have T9:=aA (fun z W (h:FS w k n z W)=>h.call (pf k.height k.root W));have TB:=aA (fun W (h:Gr w W)=>adI k.body R.b W (Q.e.gr h));have a4:=aA (adl k.height k.root);have Y:Hid (mG k=(decide (k.date<0)||decide (105190559<k.date))):=rfl;have a2:Hid (o8 k=(decide (k.number<0)||decide (1000<k.number))):=rfl;have Z:Hid (oL k=(decide (k.leaf<0)||decide (ry k.height<=k.leaf))):=rfl;have a3:Hid (decide (57344<(k.body.size:Int))=decide (57344<k.body.size)):=xS.2 (by omega);have HS:=aA R;obtain⟨ga,gm,gc,E⟩:∃a m c,k.groups=.slice a m c:=by obtain⟨_,a,c,h,_⟩:=T.g;exact⟨a,_,c,h⟩
 obtain⟨ra,rm,rc,G⟩:∃a m c,k.refs=.slice a m c:=by obtain⟨a,c,h,_⟩:=T.r;exact⟨a,_,c,h⟩
 rw[E]at T3;rw[G]at T5;replace E:=aA E;replace G:=aA G;replace hU:=aA hU;clear T Q R HG H0 H1
 cases hd:decide (k.date<0)<;>cases hm:decide (k.number<0)<;>cases hl:decide (k.leaf<0)
 all_goals
  obtain⟨J,K,L,M,H,N,I,O,P,f,j,l,o,t,v,y,B,C,D⟩:=jz F.out.2.1;rw[E.out]at H;rw[G.out]at I;go_in;go_wp2_with fail;try simp only[S]
  try rw[hU.out]
  iterate 12
   first
   |with_reducible refine(TK.out _ _ _ F.out).mono ?_
   |with_reducible refine(TX.out _ _ HS.out.n _ _ F.out).mono ?_
   |with_reducible refine(TX.out _ _ HS.out.s _ _ F.out).mono ?_
   |with_reducible refine(T3.out _ _ F.out).mono ?_
   |with_reducible refine(T5.out _ _ F.out).mono ?_
   |with_reducible refine(T6.out _ _ F.out).mono ?_
   |with_reducible refine(T7.out _ _ F.out).mono ?_
   |with_reducible refine(T9.out _ _ F.out).mono ?_
   |(with_reducible refine(V.out _ (mG k) 13 _ _ ?_ F.out).mono ?_
     .rw[Y.out,hd];simp)
   |(with_reducible refine(V.out _ (o8 k) 2 _ _ ?_ F.out).mono ?_
     .rw[a2.out,hm];simp)
   clear J K L M H N I O P f j l o t v y B C D F;rintro _ W ⟨rfl,F⟩;replace F:=aA F;obtain⟨J,K,L,M,H,N,I,O,P,f,j,l,o,t,v,y,B,C,D⟩:=jz F.out.2.1;rw[E.out]at H;rw[G.out]at I;go_wp2_with fail
  have a1:Hid (∀p:GD,Calls prog 160 #[aE (aN k.height k.root)] (gw W p) fun e a7=>e=.returned (.int .i64 (ry k.height))/\∃q:GD,a7=gw W q):=fun p=>eE (a4 _);refine jd 11 (fun u=>∃q:GD,u=gw W q) (by kernel_rfl) (by kernel_rfl) (nM W) ?_;simp only[gR,fy,ib,gd];repeat (go_big_quiet_step ((go_at_call 160;with_reducible exact a1.out _)))
  refine cX ?_;rintro _ ⟨q,rfl⟩;replace F:=aA (F.gr (cK W q));clear J K L M H N I O P f j l o t v y B C D;obtain⟨J,K,L,M,H,N,I,O,P,f,j,l,o,t,v,y,B,C,D⟩:=jz F.out.2.1;generalize gw W q=W at*
  go_wp2_with fail;iterate 3
   first
   |with_reducible refine(TK.out _ _ _ F.out).mono ?_
   |(with_reducible refine(V.out _ (oL k) 2 _ _ ?_ F.out).mono ?_
     .rw[Z.out,hl];simp)
   |with_reducible refine(V.out _ (decide (57344<k.body.size)) 5 _ _ a3.out F.out).mono ?_
   |(with_reducible refine(TB.out _ F.out.w).mono ?_
     rintro _ W ⟨⟨i,rfl⟩,g⟩;replace F:=aA (F.gr g);clear J K L M H N I O P f j l o t v y B C D g;obtain⟨J,K,L,M,H,N,I,O,P,f,j,l,o,t,v,y,B,C,D⟩:=jz F.out.2.1;go_wp2_with fail
     with_reducible refine(TK.out _ _ _ F.out).mono ?_)
   clear J K L M H N I O P f j l o t v y B C D F;rintro _ W ⟨rfl,F⟩;replace F:=aA F;obtain⟨J,K,L,M,H,N,I,O,P,f,j,l,o,t,v,y,B,C,D⟩:=jz F.out.2.1;have c0:W.cell? (aD (n+1) 0)=some (.int .i64 _):=bH (cs:=[.int .i64 _]) F.2.2 0;go_wp2_with fail
  go_ret;exact⟨rfl,F.1⟩
section
section
variable {P : Program} {ops : Array Oper} {md : Region.Mode} {S : World -> Prop} {Q : Exit -> Act -> World -> Prop}
def tL(P:Program)(b:Array Oper)(S:aB->Prop)(R:Act->Prop):List Nat->Act->Prop
 |[],a=>R a
 |i::r,a=>∃o v,b[i]? =some o/\YieldsIf P b S o v a/\tL P b S R r (a.put o.dst v)
theorem Ee{R:Act->Prop}{i:Nat}{r:List Nat}{a:Act}(h:∃o,ops[i]? =some o/\o.guard=none/\∃v,(∀u,S u->(execOp a.eval o).run P u=.ok (.value v) u)/\tL P ops S R r (a.put o.dst v)):tL P ops S R (i::r) a:=by
 obtain⟨o,c,b,v,d,h⟩:=h;exact⟨o,v,c,.inl ⟨by simp[Region.wanted,b],d⟩,h⟩
def Aa(md:Region.Mode)(a:Array Oper):List Nat->Array Bool->Bool
 |[],_=>true
 |i::r,l=>Region.free md a l i&&(Region.ready md a l).contains i&&Aa md a r (l.setIfInBounds i true)
def DW:List Nat->Array Bool->Array Bool
 |[],l=>l
 |i::r,l=>DW r (l.setIfInBounds i true)
theorem NN(g:Region.noSelect ops=true)(e:∀c (a:Act) (d:Nat) v w,Q (.panic c) (a.put (some d) v) w->Q (.panic c) a w){w:aB}(f:S w)(b:Nat):∀(h:List Nat) (l:Array Bool) (a:Act),Aa md ops h l=true->
  tL P ops S (fun j=>wpAnyH P md ops Q S b (DW h l) j w) h a->wpAnyH P md ops Q S (b+h.length) l a w
 |[],_,_,_,hy=>hy
 |i::r,l,a,hB,hy=>by
  simp only[Aa,fH]at hB;obtain⟨o,v,k,n,m⟩:=hy;exact oa k g hB.1.1 hB.1.2 (fun c a w h=>by cases hd:o.dst with|none=>rw[hd]at h;exact h|some d=>rw[hd]at h;exact e c a d v w h) n f (NN g e f b r _ _ hB.2 m)
inductive OT where
 |fin
 |one (i:Nat) (t:OT)
 |alt (s t:OT)
def OT.heads:OT->List Nat
 | .fin=>[]
 | .one i _=>[i]
 | .alt s t=>s.heads++t.heads
def OT.deep:OT->Nat
 | .fin=>0
 | .one _ t=>t.deep+1
 | .alt s t=>max s.deep t.deep
mutual
def OT.chk(md:Region.Mode)(a:Array Oper):OT->Array Bool->Bool
 | .fin,l=>decide (Region.ready md a l=[])
 | .one i t,l=>decide (Region.ready md a l=[i])&&OT.chk md a t (l.setIfInBounds i true)
 | .alt s t,l=>decide (Region.ready md a l=s.heads++t.heads)&&OT.sub md a s l&&OT.sub md a t l
def OT.sub(md:Region.Mode)(a:Array Oper):OT->Array Bool->Bool
 | .fin,_=>true
 | .one i t,l=>OT.chk md a t (l.setIfInBounds i true)
 | .alt s t,l=>OT.sub md a s l&&OT.sub md a t l
end
def jF(P:Program)(b:Array Oper)(Q:Exit->Act->aB->Prop)(S:aB->Prop):OT->Act->aB->Prop
 | .fin,a,w=>Q .normal a w
 | .one i t,a,w=>wpOp P b Q i (fun c w'=>S w'/\jF P b Q S t c w') a w
 | .alt s t,a,w=>jF P b Q S s a w/\jF P b Q S t a w
mutual
theorem DB:∀(t:OT) (l:Array Bool) (a:Act) (w:aB) (f:Nat),t.deep<=f->OT.chk md ops t l=true->jF P ops Q S t a w->wpAnyH P md ops Q S f l a w
 | .fin,l,a,w,f,_,hB,h=>AW (oG hB) h f
 | .one i t,l,a,w,f,hf,hB,h=>by
  simp only[OT.chk,fH,iK]at hB
  cases f with
  |zero=>simp[OT.deep]at hf
  |succ f=>
   refine wpAnyH_all hB.1 (by simp) fun j b=>?_;obtain rfl:j=i:=by simpa using b
   exact wpOp_mono (fun d w' q=>⟨q.1,DB t _ d w' f (by simp only[OT.deep]at hf;omega) hB.2 q.2⟩) h
 | .alt s t,l,a,w,f,hf,hB,h=>by
  simp only[OT.chk,fH,iK]at hB
  cases f with
  |zero=>
   refine⟨?_,?_⟩
   .rw[hB.1.1]
    have:=AM s (by simp only[OT.deep]at hf;omega);have e:=AM t (by simp only[OT.deep]at hf;omega);rw[this,e];rfl
   .exact Kp (.alt s t) (by simpa[OT.deep]using hf) a w h
  |succ f=>
   by_cases c:s.heads++t.heads=[]
   .exact AW (by rw[hB.1.1,c]) (Gs (.alt s t) c a w h) _
   refine wpAnyH_all hB.1.1 c fun j b=>?_;simp only[OT.deep]at hf;rcases mf.1 b with b|b
   .exact Bz s l a w f (by omega) hB.1.2 h.1 j b
   .exact Bz t l a w f (by omega) hB.2 h.2 j b
theorem Bz:∀(t:OT) (l:Array Bool) (a:Act) (w:aB) (f:Nat),t.deep<=f+1->OT.sub md ops t l=true->jF P ops Q S t a w->∀j∈t.heads,wpOp P ops Q j (fun b w'=>S w'/\wpAnyH P md ops Q S f (l.setIfInBounds j true) b w') a w
 | .fin,_,_,_,_,_,_,_,j,hj=>by cases hj
 | .one i t,l,a,w,f,hf,hB,h,j,hj=>by
  obtain rfl:j=i:=by simpa[OT.heads]using hj
  exact wpOp_mono (fun b w' q=>⟨q.1,DB t _ b w' f (by simp only[OT.deep]at hf;omega) hB q.2⟩) h
 | .alt s t,l,a,w,f,hf,hB,h,j,hj=>by
  simp only[OT.sub,fH]at hB;simp only[OT.deep]at hf;rcases mf.1 hj with hj|hj
  .exact Bz s l a w f (by omega) hB.1 h.1 j hj
  .exact Bz t l a w f (by omega) hB.2 h.2 j hj
theorem AM:∀t:OT,t.deep<=0->t.heads=[]
 | .fin,_=>rfl
 | .one _ _,h=>by simp[OT.deep]at h
 | .alt s t,h=>by
  simp only[OT.deep]at h;rw[OT.heads,AM s (by omega),AM t (by omega)];rfl
theorem Kp:∀(t:OT),t.deep<=0->∀(a:Act) (w:aB),jF P ops Q S t a w->Q .normal a w
 | .fin,_,_,_,h=>h
 | .one _ _,hd,_,_,_=>by simp[OT.deep]at hd
 | .alt s t,hd,a,w,h=>Kp s (by simp only[OT.deep]at hd;omega) a w h.1
theorem Gs:∀(t:OT),t.heads=[]->∀(a:Act) (w:aB),jF P ops Q S t a w->Q .normal a w
 | .fin,_,_,_,h=>h
 | .one _ _,hd,_,_,_=>by cases hd
 | .alt s t,hd,a,w,h=>Gs s (List.append_eq_nil_iff.1 hd).1 a w h.1
end
theorem Dj{s t:OT}{a:Act}{w:aB}(b:jF P ops Q S s a w)(c:jF P ops Q S t a w):jF P ops Q S (.alt s t) a w:=⟨b,c⟩
theorem Hh{a:Act}{w:aB}(h:Q .normal a w):jF P ops Q S .fin a w:=h
theorem EY{id:Nat}{a:Act}{w:aB}(S:aB->Prop)(h:List Nat)(t:OT)(x:P.follows .mixedOrders=true)
  (k:(Region.noSelect ops&&decide (t.deep+h.length=ops.size)&&Aa .any ops h (Array.replicate ops.size false)&&OT.chk .any ops t (DW h (Array.replicate ops.size false)))=true)
  (s:∀c (a:Act) (d:Nat) v w,Q (.panic c) (a.put (some d) v) w->Q (.panic c) a w) (u:S w.drew) (A:tL P ops S (fun g=>jF P ops Q S t g w.drew) h a):(Code.region id ops true).wp P Q a w:=by
 simp only[fH,iK]at k;obtain⟨⟨⟨l,m⟩,n⟩,p⟩:=k;refine wp_region_held (S:=S) x ?_;have f:∀(h:List Nat) (a:Act) (R b:Act->Prop),(∀a,R a->b a)->tL P ops S R h a->tL P ops S b h a:=by
  intro h
  induction h with
  |nil=>intro a R b j q;exact j a q
  |cons i r B=>intro a R b j q;obtain⟨o,v,y,z,q⟩:=q;exact⟨o,v,y,z,B _ R b j q⟩
 have e:=NN (w:=w.drew) (Q:=Q) l s u t.deep h _ a n (f h a _ _ (fun g q=>DB t _ g w.drew t.deep (aU _) p q) A);rw[m]at e;exact e
theorem tF{i:Nat}{t:OT}{a:Act}{w:aB}{o:Oper}{E:Prop}(d:ops[i]? =some o) (c:o.guard=none) (h:if Region.wanted o (yielded ops a.tmps)=true then o.wp P a w (fun b w'=>S w'/\jF P ops Q S t b w') Q else E):jF P ops Q S (.one i t) a w:=by
 have e:Region.wanted o (yielded ops a.tmps)=true:=by simp[Region.wanted,c]
 show wpOp _ _ _ _ _ _ _;unfold wpOp;simp only[d];rw[aG e]at h|-
 exact .inl h
theorem rn{i:Nat}{t:OT}{a:Act}{w w':aB}{o:Oper}{v:Value}(c:ops[i]? =some o) (b:o.guard=none) (d:(execOp a.eval o).run P w=.ok (.value v) w') (h:S w'/\jF P ops Q S t (a.put o.dst v) w'):jF P ops Q S (.one i t) a w:=by
 refine tF (E:=True) c b ?_;rw[aG (by simp[Region.wanted,b])];unfold Oper.wp;rw[d];exact h
theorem FR{i:Nat}{t:OT}{a:Act}{w w':aB}{o:Oper}(c:ops[i]? =some o) (b:o.guard=none) (d:(execOp a.eval o).run P w=.ok .skip w') (h:S w'/\jF P ops Q S t (a.put o.dst undef) w'):jF P ops Q S (.one i t) a w:=by
 refine tF (E:=True) c b ?_;rw[aG (by simp[Region.wanted,b])];unfold Oper.wp;rw[d];exact h
end
theorem KN{P:Program}{o:Oper}{a:Act}{w:aB}{K:Act->aB->Prop}{Q:Exit->Act->aB->Prop}{f:FuncId}{args:Array Value}(d:(execOp a.eval o).run P w=.ok (.enter f args) w)(b:Calls P f args w fun e w'=>∃v,e=.returned v/\K (a.put o.dst v) w'):o.wp P a w K Q:=by
 unfold Oper.wp;rw[d];refine b.mono ?_;rintro e w' ⟨v,rfl,c⟩;exact c
theorem vx{P:Program}{b:Array Oper}{S:aB->Prop}{Q:Exit->Act->aB->Prop}{i:Nat}{t:OT}{a:Act}{w:aB}{o:Oper}{f:FuncId}{args:Array Value}(g:b[i]? =some o) (c:o.guard=none) (h:(execOp a.eval o).run P w=.ok (.enter f args) w) (d:Calls P f args w fun e w'=>∃v,e=.returned v/\S w'/\jF P b Q S t (a.put o.dst v) w'):jF P b Q S (.one i t) a w:=by
 refine tF (E:=True) g c ?_;rw[aG (by simp[Region.wanted,c])];exact KN h d
end
def un(t:aT):(bs t).size=t.length:=by show t.toArray.size=_;rw[bQ]
structure iO(k:bU)(gs:bP):Prop where
 t:k.name.size+k.subject.size+k.control.size+k.dist.size<=2000
 b:k.body.size<=2000
 g:gs.length<=30
 z:(gs.map (·.size)).sum<=3000
 n:me k.number
 d:me k.date
 l:me k.leaf
def iO.sm{k:bU}{a:bP}(h:iO k a):Sm k a:=by
 obtain⟨b,c,d,e,_,_,_⟩:=h;exact⟨by omega,by omega,by omega,by omega,by omega,by omega,by omega⟩
def rV(n:Int)(h:me n):(gu n).size<=21:=by
 unfold gu;rw[un];exact Lib.itoa_length_le n h.1 h.2
def adR(h:Int)(r:aK):(nf h r).size<=24:=by
 unfold nf;split
 .rw[un];exact(Ll h r).2
 .exact bW _
def Aw(k:bU)(h:me k.number):(lT k).size<=46:=by
 unfold lT;rw[ni,ni];have a:=rV k.number h;have b:=adR k.height k.root;have c:(⟨#[32]⟩:aJ).size=1:=rfl;omega
def CS(i:Id):(nl i).size<=71:=by
 unfold nl;split
 .exact bW _
 .rw[un,wX];exact aU _
def D0(a:bP)(m:Nat)(h:(a.map (·.size)).sum<=m):(mA a).size<=m+a.length:=by
 unfold mA;split
 .unfold m8
  show Array.size _<=_;rw[bQ];exact Ca a ⟨#[44]⟩ m h rfl
 .exact bW _
def DH(rs:List Id)(h:gq rs=0):(ln rs).size<=1440:=by
 have b:rs.length<=20:=by
  unfold gq at h;by_cases a:20<rs.length
  .rw[aG a]at h;cases h
  .omega
 unfold ln;rw[aG h,un];have:=Ju rs;omega
def oX(k:bU)(a:bP)(rs:List Id):bP:=[k.name,bs (lI k.author),gu k.date,mA a,k.subject,ln rs,nl k.sup,k.control,k.dist,lT k,gu k.leaf]
def dR(k:bU)(a:bP)(rs:List Id):aM:=(eM.zip (oX k a rs)).flatMap mq++10::bl k.body
def ue(k:bU)(a:bP)(rs:List Id):ByteArray:=if fc k a rs=0 then bs (dR k a rs)else⟨#[]⟩
def abb(p:aJ×aJ):(mq p).length=p.1.size+p.2.size+2:=by
 unfold mq;simp only[bV,dN,iJ,bN];omega
def l'{e:Int}{b:Bool}{x:Int}(h:cQ e b x=0):e=0/\(b=true->x=0):=by
 unfold cQ at h;by_cases a:e=0/\b=true
 .rw[aG a]at h;exact⟨a.1,fun _=>h⟩
 .rw[aF a]at h;exact⟨h,fun c=>absurd ⟨h,c⟩ a⟩
def ado(x:Int):cQ 0 true x=x:=aG ⟨rfl,rfl⟩
def Cs{z x:Int}(h:z=0->x=0):cQ z true x=z:=by
 unfold cQ;by_cases a:z=0
 .rw[aG ⟨a,rfl⟩,h a,a]
 .rw[aF fun q=>a q.1]
def zn{k:bU}{a:bP}{rs:List Id}(h:fc k a rs=0):kG a=0/\gq rs=0/\cH k.height=0/\oL k=false/\mG k=false/\o8 k=false/\o3 k.body=0:=by
 unfold fc at h;obtain⟨h,d⟩:=l' h;obtain⟨h,_⟩:=l' h;obtain⟨h,j⟩:=l' h;obtain⟨h,i⟩:=l' h;obtain⟨h,l⟩:=l' h;unfold oZ at h;obtain⟨h,_⟩:=l' h;obtain⟨h,_⟩:=l' h;have c:cQ (kF (cQ (cQ (kF 0 k.name 60) (mG k) 13) true (kG a)) k.subject 200) true (gq rs)=0:=by
  unfold lC at h;by_cases b:k.control.size=0
  .rw[aG b]at h;exact h
  .rw[aF b]at h
   obtain⟨h,_⟩:=l' h;obtain⟨h,_⟩:=l' h;obtain⟨h,_⟩:=l' h;exact h
 obtain⟨h,m⟩:=l' c;unfold kF at h;obtain⟨h,_⟩:=l' h;obtain⟨h,_⟩:=l' h;obtain⟨h,_⟩:=l' h;obtain⟨h,g⟩:=l' h;obtain⟨h,f⟩:=l' h;refine⟨g rfl,m rfl,i rfl,?_,?_,?_,d rfl⟩
 .cases e:oL k with|false=>rfl|true=>exact absurd (j e) (aH rfl)
 .cases e:mG k with|false=>rfl|true=>exact absurd (f e) (aH rfl)
 .cases e:o8 k with|false=>rfl|true=>exact absurd (l e) (aH rfl)
def Jr(k:bU)(e:bP)(rs:List Id)(m:iO k e)(n:gq rs=0):(dR k e rs).length<=20000:=by
 obtain⟨H,I,J,g,h,j,l⟩:=m;have q:=rV k.date j;have r:=rV k.leaf l;have s:=Aw k h;have t:=CS k.sup;have u:=D0 e 3000 g;have v:=DH rs n;have w:(bs (lI k.author)).size=32:=by rw[un,Eo]
 have o:∀a b,(mq (a,b)).length=a.size+b.size+2:=fun a b=>abb (a,b);have c:∀i,i<11->(eM.getD i eS).size<=12:=by decide
 unfold dR oX;have d:eM=[eM.getD 0 eS,eM.getD 1 eS,eM.getD 2 eS,eM.getD 3 eS,eM.getD 4 eS,eM.getD 5 eS,eM.getD 6 eS,eM.getD 7 eS,eM.getD 8 eS,eM.getD 9 eS,eM.getD 10 eS]:=rfl;have K:=c 0 (aH rfl);have L:=c 1 (aH rfl);have M:=c 2 (aH rfl);have N:=c 3 (aH rfl);have O:=c 4 (aH rfl);have P:=c 5 (aH rfl);have Q:=c 6 (aH rfl);have R:=c 7 (aH rfl);have S:=c 8 (aH rfl);have T:=c 9 (aH rfl);have p:=c 10 (aH rfl);rw[d];generalize eM.getD 0 eS=x at*
 generalize eM.getD 1 eS=y at*
 generalize eM.getD 2 eS=z at*
 generalize eM.getD 3 eS=A at*
 generalize eM.getD 4 eS=B at*
 generalize eM.getD 5 eS=C at*
 generalize eM.getD 6 eS=D at*
 generalize eM.getD 7 eS=E at*
 generalize eM.getD 8 eS=F at*
 generalize eM.getD 9 eS=G at*
 generalize eM.getD 10 eS=f at*
 simp only[List.zip_cons_cons,List.zip_nil_right,n_,List.flatMap_nil,bV,dN,iJ,o,bN];omega
end Go.Proofs.YtjfaogajmoffoaaGreatDoor
