/- Lemmas for VerifyStatus. -/
import Derived.Test.YtjfaogajmoffoaaGreatDoorQPA21
set_option maxRecDepth 100000
set_option maxHeartbeats 16000000
set_option linter.all false
namespace Go.Proofs.YtjfaogajmoffoaaGreatDoor
open Go.RowKit Tryz
@[go_sem ↓] def aeP {P:Program} (b:Operand->Value) (d:Option Tmp) (a:Array (Nat×Operand)) (e:TypeId) (p:String) (c:Array Edge) (g:Option (Nat×Bool)) (w:aB):
  Sem.run P (execOp b ⟨d,.buildSlice 38 1 a,e,p,c,g⟩) w=jI P 38 1 (a.map fun x=>(x.1,b x.2)) w:=rfl
def UL(f:Nat->Value)(w:aB):(Instr.buildSlice 38 1 #[(0,aE ((List.range 84).map f))]).run prog w=.ok (aR (w.heap.size) 0 1 1) (w.alloc (aC ((List.range 84).map f) 76)):=by kernel_rfl
@[go_sem] def ahg (y:Rl) (w:aB):jI prog 38 1 #[(0,aE (bK y))] w=.ok (.value (aR (w.heap.size) 0 1 1)) (w.alloc (aC (bK y) 76)):=qc (by
 rw[gi (bK y) 84 (fM y)];exact UL _ w)
def uS:om 38 76 84 112:=rE underlying38 (by kernel_rfl) (aH rfl) (aH rfl)
def c_.empty(t:TypeId)(size:Nat)(w:aB)(base:Nat)(a:base<=w.heap.size):c_ t size (w.alloc (.cells #[] t)) base (aR (w.heap.size) 0 0 0) []:=
 ⟨fun _ h=>(xF h).elim,by simp,.inr ⟨w.heap.size,0,#[],rfl,a,cM w _,aU _,bW _,by simp,by simp⟩⟩
def sP{m t:TypeId}{size c:Nat}(l:om m t size c){j:Array Oper}{o:Oper}{a:Act}{w:aB}{K:Act->aB->Prop}{Q:Exit->Act->aB->Prop}{E:Prop}
  (F:o.guard=none) (d:Nat) (D:o.dst=some d) (s x:Operand) (n:o.op=Op.call { callee:=Callee.builtin Builtin.append,args:=#[s,x],argTypes:=#[m,m] })
  (base:Nat) (v:Value) (rows:List bF) (hs:a.eval s=v) (hown:c_ t size w base v rows) (sv:Value) (rs:List bF) (hx:a.eval x=sv) (hsl:bX w sv size rs) (hr:∀r∈rs,r.length=size) (h1:∀r∈rs,cN r=true) (k:Nat) (hk:rows.length+rs.length=k) (h63:k<=1000000) (hbase:base<=w.heap.size)
  (hK:∀e f w',c_ t size w' base (.slice e k f) (rows++rs)->w.grownBy w' v.ownBlock->((Value.slice e k f).ownBlock=v.ownBlock\/(Value.slice e k f).ownBlock=some w.heap.size)->K (a.put (some d) (.slice e k f)) w'):
  if Region.wanted o (yielded j a.tmps)=true then Oper.wp prog o a w K Q else E:=by
 subst hk;have G:Region.wanted o (yielded j a.tmps)=true:=by simp[Region.wanted,F]
 rw[aG G];obtain⟨i,z,H,I,J,L,M⟩:=l.i;obtain⟨e,f,w',h,y,B,C⟩:=v_ (P:=prog) w base m o.type t i z size c l.u H I J L M l.p v rows.length rows.flatten hown.2 sv rs hsl hr h1 h63 l.b hbase;unfold Oper.wp;simp[execOp,n,resolve,invoke,builtin,hs,hx,h,Result.andThen];show K (a.put o.dst _) w';rw[D];refine hK e f w' ⟨fun q g=>?_,?_⟩ B C
 .rcases mf.1 g with g|g
  .exact hown.1 q g
  .exact hr q g
 .rw[bV,Ai];exact y
def AV(L:List Rl)(y:Rl)(kind nx:Int)(w:aB)(e:Ending)(w':aB):Prop:=∃a,e=.returned (.tuple #[a,.int .i64 (im L y kind nx)])/\bX w' a 84 ((oV L y kind nx).map bK)/\Gr w w'
def T_{L:List Rl}{y:Rl}{a c E:Int}{w w':aB}{v:Value}(h:im L y a c=E)(d:E≠0)(e:bX w v 84 (L.map bK))(b:Gr w w'):AV L y a c w (.returned (.tuple #[v,.int .i64 E])) w':=
 ⟨v,by rw[h],by unfold oV;rw[aF (by rw[h];exact d)];exact e.gr b,b⟩
def SN(L:List Rl)(v:Value)(y:Rl)(a o:Int)(w:aB)(hv:bX w v 84 (L.map bK))(hl:L.length<=900):
  Calls prog 18 #[v,aE (bK y),.int .i64 a,.int .i64 o] w (AV L y a o w):=by
 obtain⟨n,hn⟩:=ex w.heap.size;have HN:=aA hn;obtain⟨C,hU,HG,H0⟩:=gO hn (aC (bK y) 76)
 have HF:Hid (∀V,Gr C V->yT V n 0 y/\n<V.heap.size):=fun V hV=>by
  have hb:=(hV.block (aI H0)).trans H0;exact⟨vA (aP hb 0 84 (by rw[fM];decide)) ((bJ hb 0 84 (by rw[fM];decide)).trans (b_ _ _ (fM _))),aI hb⟩
 have HV:=aA hv;have HE:Hid (∀(E:Int),im L y a o=E->E≠0->∀V,Gr C V->AV L y a o w (.returned (.tuple #[v,.int .i64 E])) V):=fun E h hE V hV=>T_ h hE HV (HG.trans hV);have aq:Hid (∀W,Gr C W->CG 47 #[v,aE (bC y.id)] W (.bool (jw L y.id))):=fun W hW=>acA L y.id v W (hv.gr (HG.trans hW)) (by omega)
 have af:Hid (∀(h:Int) (r:aK) W,CG 45 #[aE (aN h r)] W (.bool (decide (cH h=0)))):=fun h r W=>by
  have:=CA h r W;rw[show decide (cH h=0)=(decide (1<=h)&&decide (h<=8)) by
   unfold cH;by_cases c:h<1\/8<h
   .rw[aG c]
    rcases c with c|c
    .rw[eL (by omega:¬1<=h)];rfl
    .rw[eL (by omega:¬h<=8),Bool.and_false];rfl
   .rw[aF c,fm (by omega:1<=h),fm (by omega:h<=8)];rfl]
  exact this
 obtain⟨yi,⟨H,f,⟨a6,a7⟩⟩,s,D,yl,d,t⟩:=y;have d1:=fM ⟨yi,⟨H,f,⟨a6,a7⟩⟩,s,D,yl,d,t⟩;have d2:=pQ ⟨yi,⟨H,f,⟨a6,a7⟩⟩,s,D,yl,d,t⟩;obtain⟨R,hR⟩:∃R:Rl,(⟨yi,⟨H,f,⟨a6,a7⟩⟩,s,D,yl,d,t⟩:Rl)=R:=⟨_,rfl⟩;have HA:Hid (im L R a o=if a≠5 then 11 else if f<0\/999<f then 2 else if o≠f+1 then 30
 else if cH s≠0\/cH d≠0\/iN s D d t=true\/yl<0\/2^s.toNat<=yl then 18
 else if f=0/\jG H s D=false then 20 else if jw L yi=true then 7 else 0):=by show _=_;rw[<-hR];rfl
 have I:Hid (∀V,Gr C V->hasRow V (aD n 0) 84=true/\rowAt V (aD n 0) 84=bK R/\hasRow V (aD n 0) 32=true/\rowAt V (aD n 0) 32=bC yi/\hasRow V (aD n 32) 16=true/\rowAt V (aD n 32) 16=bC H/\V.cell? (aD n 48)=some (.int .i64 f)/\hasRow V (aD n 49) 17=true/\rowAt V (aD n 49) 17=aN s D/\V.cell? (aD n 66)=some (.int .i64 yl)/\hasRow V (aD n 67) 17=true/\rowAt V (aD n 67) 17=aN d t/\V.cell? (aD n 49)=some (.int .i64 s)/\n<V.heap.size):=fun V hV=>by
  obtain⟨⟨f1,f2,f3,f4,f5,f6,f7,f8,f9,aw,ax,ay⟩,fz⟩:=HF.out V hV;simp only[fB]at f3 f4 f5 f6 f7 f8 f9 aw ax ay;rw[hR]at f2;exact⟨f1,f2,f3,f4,f5,f6,f7,f8,f9,aw,ax,ay,qh f8 f9 0 _ rfl,fz⟩
 have ad:Hid (∀W,Gr C W->CG 47 #[v,aE (bC yi)] W (.bool (jw L yi))):=aq;rw[hR]at d1 d2 HE hU H0|-
 have bh:=aA hR;replace hU:=aA hU;clear HF aq hR hv;have b1:=bG s D;have b2:=h_ s D;have b3:=bG d t;have b4:=h_ d t;have b5:=aO H;have b6:=cZ H;have b7:=cC yi;have b8:=gE yi;obtain⟨O,P,S,T,U,X,Y,Z,k9,i,j,k,l,m⟩:=I.out C (Gr.refl C);rw[<-hU.out]at O P S T U X Y Z k9 i j k l m;have G0:Hid (Gr C C):=Gr.refl C;have bd:Hid (Gr C (w.alloc (aC (bK R) 76))):=by show Gr _ _;rw[hU.out];exact Gr.refl _
 by_cases hk:a=5;rotate_left
 focus
  have b:=aA (show im L R a o=11 by rw[HA.out,aG hk])
  have c1:(a==5)=false:=dI.2 hk;have c2:(a != 5)=true:=by simp[hk]
  replace hk:=aA hk
 rotate_right
 subst hk;have a8:=aA (HA.trans (aF (fun h=>h rfl)));clear HA;by_cases h0:f<0
 focus
  have b:=aA (show im L R 5 o=2 by rw[a8.out,aG (.inl h0)])
  have c1:decide (f<0)=true:=fm h0
 rotate_left;have c0:decide (f<0)=false:=eL h0;by_cases h1:999<f
 focus
  have b:=aA (show im L R 5 o=2 by rw[a8.out,aG (.inr h1)])
  have c1:decide (999<f)=true:=fm h1
 rotate_left;have c1:decide (999<f)=false:=eL h1;have ae:=aA (a8.trans (aF (fun h=>h.elim h0 h1)));have bo:wrap64 (f+1)=f+1:=(rG _).symm.trans (by rw[cV];omega);clear a8;by_cases h2:o=f+1;rotate_left
 focus
  have b:=aA (show im L R 5 o=30 by rw[ae.out,aG h2])
  have c2:(o==f+1)=false:=dI.2 h2;have c3:(o != f+1)=true:=by simp[h2]
  replace h2:=aA h2
 rotate_right
 have c2:(o==f+1)=true:=by simp[h2]
 have c3:(o != f+1)=false:=by simp[h2]
 have F:=aA (ae.trans (aF (fun h=>h h2)));replace h2:=aA h2;clear ae;have aa:Hid (∀W,CG 45 #[aE (aN s D)] W (.bool (decide (cH s=0)))):=fun W=>af s D W;have ab:Hid (∀W,CG 45 #[aE (aN d t)] W (.bool (decide (cH d=0)))):=fun W=>af d t W;clear af;by_cases h3:cH s=0;rotate_left
 focus
  have b:=aA (show im L R 5 o=18 by rw[F.out,aG (.inl h3)])
  rw[eL h3]at aa;replace h3:=aA h3
 rotate_right
 rw[fm h3]at aa;by_cases K:cH d=0;rotate_left
 focus
  have b:=aA (show im L R 5 o=18 by rw[F.out,aG (.inr (.inl K))])
  rw[eL K]at ab;replace h3:=aA h3;replace K:=aA K
 rotate_right
 rw[fm K]at ab;generalize bg:iN s D d t=pe at*
 have a0:=fun W=>Cy s D d t W;rw[bg]at a0
 cases pe
 rotate_left
 focus
  have b:=aA (show im L R 5 o=18 by rw[F.out,aG (.inr (.inr (.inl rfl)))])
  replace h3:=aA h3;replace K:=aA K
 rotate_right
 have ac:1<=s/\s<=8:=by
  unfold cH at h3;by_cases c:s<1\/8<s
  .rw[aG c]at h3;cases h3
  .omega
 by_cases h5:yl<0
 focus
  have b:=aA (show im L R 5 o=18 by rw[F.out,aG (.inr (.inr (.inr (.inl h5))))])
  have c5:decide (yl<0)=true:=fm h5;replace h3:=aA h3;replace K:=aA K;replace ac:=aA ac;replace h5:=aA h5
 rotate_left;have c5:decide (yl<0)=false:=eL h5;obtain⟨N,rfl⟩:∃N:Nat,s=(N:Int):=⟨s.toNat,by omega⟩;have i3:(N:Int).toNat=N:=by omega
 have ba:wrap64 ((2:Int)^N)=((2^N:Nat):Int):=by
  have h9:∀N:Fin 9,wrap64 ((2:Int)^N.val)=((2^N.val:Nat):Int):=by decide+kernel
  exact h9 ⟨N,by omega⟩
 have i2:(N:Int)<=63:=by omega
 have i0:=nn N
 obtain⟨Q,hQ⟩:∃Q:Nat,2^N=Q:=⟨_,rfl⟩;have bf:(2:Int)^N=(Q:Int):=by rw[<-hQ];simp
 have az:Q<=256:=by
  rw[<-hQ];have h9:∀N:Fin 9,2^N.val<=256:=by decide+kernel
  exact h9 ⟨N,by omega⟩
 have bm:IntKind.i64.wrap (Q:Int)=(Q:Int):=pA Q (xh az (aH rfl));rw[i3,bf]at F;have au:=aA ac;clear hQ ba az ac;by_cases h6:(Q:Int)<=yl
 focus
  have b:=aA (show im L R 5 o=18 by rw[F.out,aG (.inr (.inr (.inr (.inr h6))))])
  have c6:decide ((Q:Int)<=yl)=true:=fm h6;replace h3:=aA h3;replace K:=aA K;replace h5:=aA h5
 rotate_left;have c6:decide ((Q:Int)<=yl)=false:=eL h6;have a9:=aA (F.trans (aF (by intro z;rcases z with z|z|z|z|z;exact z h3;exact z K;cases z;exact h5 z;exact h6 z)));have ap:=aA (show jG H (N:Int) D=(cF (gv (N:Int) D)==H) by unfold jG;rw[fm h3,vB])
 have ar:Hid (∀W,CG 46 #[aE (aN (N:Int) D)] W (aE (bC (cF (gv (N:Int) D))))):=fun W=>Jw (N:Int) D W au.1 au.2;replace h3:=aA h3;replace K:=aA K;replace h5:=aA h5;replace h6:=aA h6;rw[ap.out]at a9;clear ap F;generalize cF (gv (N:Int) D)=z at*
 have l1:=aO z;have l2:=cZ z;have hX:Hid (∃b9:Bool,(f==0&&z != H)=b9):=⟨_,rfl⟩;by_cases h7:f=0/\(z==H)=false
 focus
  have b:=aA (show im L R 5 o=20 by rw[a9.out,aG h7])
  have c7:(f==0)=true:=by simp[h7.1]
  have c8:=h7.2;have c9:(z != H)=true:=by simp[bne,c8]
  replace h7:=aA h7
 rotate_left;have ao:=aA (a9.trans (aF h7));clear a9;have av:Hid (((f==0)=true/\(z==H)=true)\/(f==0)=false):=by
  by_cases c:f=0
  .refine .inl ⟨by simp[c],?_⟩
   cases hz:(z==H)
   .exact absurd ⟨c,hz⟩ h7
   .rfl
  .exact .inr (dI.2 c)
 clear h7;generalize bn:jw L yi=hr at*
 cases hr
 rotate_left
 focus
  have b:=aA (show im L R 5 o=7 by rw[ao.out,aG rfl])
  rcases av.out with⟨c7,c8⟩|c7
  all_goals
   try have c9:(z != H)=false:=by simp[bne,c8]
 rotate_right
 focus
  have b:=aA (show im L R 5 o=0 by rw[ao.out,aF (aH rfl)])
  have be:=aA (show oV L R 5 o=L++[R] by unfold oV;rw[aG b.out])
  rcases av.out with⟨c7,c8⟩|c7
  all_goals
   try have c9:(z != H)=false:=by simp[bne,c8]
   go_in;go_wp2_with fail;try simp only[hn]
   rw[hU.out];clear O P S T U X Y Z k9 i j k l m;obtain⟨O,P,S,T,U,X,Y,Z,k9,i,j,k,l,m⟩:=I.out C (Gr.refl C);refine ej (by kernel_rfl) (by kernel_rfl) ?_;repeat (go_big_quiet_step ((first|(go_at_call 45;with_reducible exact eE (aa.out _))|(go_at_call 45;with_reducible exact eE (ab.out _)))))
   refine cX ?_;rintro _ ⟨bb,rfl⟩;have G1:=aA (G0.trans (cK C bb));clear O P S T U X Y Z k9 i j k l m;generalize gw C bb=V1 at*
   obtain⟨O,P,S,T,U,X,Y,Z,k9,i,j,k,l,m⟩:=I.out V1 G1.out;go_wp2_with fail;refine ej (by kernel_rfl) (by kernel_rfl) ?_;repeat (go_big_quiet_step ((go_at_call 46;with_reducible exact eE (ar.out _))))
   refine cX ?_;rintro _ ⟨bc,rfl⟩;have G2:=aA (G1.trans (cK V1 bc));clear O P S T U X Y Z k9 i j k l m;generalize gw V1 bc=V2 at*
   obtain⟨O,P,S,T,U,X,Y,Z,k9,i,j,k,l,m⟩:=I.out V2 G2.out;go_wp2_with fail;refine bA (ad V2 G2) fun u g3=>?_;have G3:=aA (G2.trans g3);clear O P S T U X Y Z k9 i j k l m g3;have ai:=aA (bX.gr HV (HG.trans G3));obtain⟨B,hB⟩:=ex u.heap.size;have p:=aA hB
   have a3:Hid (∀V,Gr u V->hasRow V (aD n 0) 84=true/\rowAt V (aD n 0) 84=bK R/\n<V.heap.size):=fun V hV=>by
    have q:=I V (G3.trans hV);exact⟨q.1,q.2.1,q.2.2.2.2.2.2.2.2.2.2.2.2.2⟩
   obtain⟨W1,aj⟩:∃W,u.drew.alloc (.cells #[] 76)=W:=⟨_,rfl⟩;obtain⟨W2,ak⟩:∃W,u.drew.alloc (aC (bK R) 76)=W:=⟨_,rfl⟩;obtain⟨W3,al⟩:∃W,W1.alloc (aC (bK R) 76)=W:=⟨_,rfl⟩;obtain⟨W4,am⟩:∃W,W2.alloc (.cells #[] 76)=W:=⟨_,rfl⟩;have s0:u.drew.heap.size=B:=hB;have s1:W1.heap.size=B+1:=by rw[<-aj];simp;exact hB
   have s2:W2.heap.size=B+1:=by rw[<-ak];simp;exact hB
   have g1:Hid (Gr u W1):=aj▸(Gr.refl u).drew.alloc _
   have g2:Hid (Gr u W2):=ak▸(Gr.refl u).drew.alloc _
   have g3:Hid (Gr u W3):=al▸g1.out.alloc _
   have g4:Hid (Gr u W4):=am▸g2.out.alloc _
   have O1:Hid (c_ 76 84 W1 B (aR B 0 0 0) []):=by
    show c_ _ _ _ _ _ _;have:=c_.empty 76 84 u.drew B (tN s0.symm);rw[s0,aj]at this;exact this
   have O3:Hid (c_ 76 84 W3 B (aR B 0 0 0) []):=by
    show c_ _ _ _ _ _ _;rw[<-al];exact O1.gr ((Gr.refl W1).alloc _)
   have O4:Hid (c_ 76 84 W4 B (aR (B+1) 0 0 0) []):=by
    show c_ _ _ _ _ _ _;have:=c_.empty 76 84 W2 B (by omega);rw[s2,am]at this;exact this
   have X3:Hid (HB W3 (B+1) (bK R) 76):=al▸aY _ _ _ s1.symm
   have X4:Hid (HB W4 B (bK R) 76):=by
    show _=_;rw[<-am];exact(((Gr.refl W2).alloc _).block (by rw[s2];omega)).trans (by rw[<-ak];exact aY _ _ _ s0.symm)
   have ah:Hid (∀r∈L.map bK,r.length=84):=fun r hr=>by obtain⟨x,_,rfl⟩:=iQ.1 hr;exact fM x
   have ag:Hid (∀r∈L.map bK,cN r=true):=fun r hr=>by obtain⟨x,_,rfl⟩:=iQ.1 hr;exact pQ x
   have M:Hid ((L.map bK).length=L.length):=cL _;obtain⟨e1,e2,e3⟩:=a3.out u (Gr.refl u);obtain⟨e4,e5,e6⟩:=a3.out u.drew (Gr.refl u).drew;obtain⟨e7,e8,e9⟩:=a3.out W1 g1.out;obtain⟨bi,bj,bk⟩:=a3.out W3 g3.out;clear hB;go_wp2_with fail;go_region_law (first
    |(refine sP uS rfl 85 rfl (.tmp 83) (.tmp 84) rfl B (aR B 0 0 0) [] (by simp[Act.eval]) O1 v (L.map bK) (by simp[Act.eval]) (bX.gr ai g1) ah ag L.length (by rw[M.out];simp) (by omega) (by rw[s1];omega) ?_;intro a1 c1 w4 a5 J _;have G4:Hid (Gr u w4):=g1.grown J (fun q hq=>by have:=(O1.own hq).1;have:=p.out;omega);obtain⟨f1,f2,f3⟩:=a3.out w4 G4.out;have X9:=aA (aY w4 (aC (bK R) 76) _ rfl);have O9:=aA (a5.gr ((Gr.refl w4).alloc (aC (bK R) 76)));have GE:=aA (G4.alloc (aC (bK R) 76)))
    |(refine sP uS rfl 85 rfl (.tmp 83) (.tmp 84) rfl B (aR B 0 0 0) [] (by simp[Act.eval]) O3 v (L.map bK) (by simp[Act.eval]) (bX.gr ai g3) ah ag L.length (by rw[M.out];simp) (by omega) (by have:=g3.size;have:=p.out;omega) ?_;intro a1 c1 w4 a5 J _;have GE:Hid (Gr u w4):=g3.grown J (fun q hq=>by have:=(O3.own hq).1;have:=p.out;omega);have O9:=aA a5;have X9:Hid (HB w4 (B+1) (bK R) 76):=(J.block (B+1) (aI X3) (by simp[Value.ownBlock])).trans X3)
    |(refine sP uS rfl 85 rfl (.tmp 83) (.tmp 84) rfl B (aR (B+1) 0 0 0) [] (by simp[Act.eval]) O4 v (L.map bK) (by simp[Act.eval]) (bX.gr ai g4) ah ag L.length (by rw[M.out];simp) (by omega) (by have:=g4.size;have:=p.out;omega) ?_;intro a1 c1 w4 a5 J _;have GE:Hid (Gr u w4):=g4.grown J (fun q hq=>by have:=(O4.own hq).1;have:=p.out;omega);have O9:=aA a5;have X9:Hid (HB w4 B (bK R) 76):=(J.block B (aI X4) (by simp[Value.ownBlock])).trans X4)
    |(refine Ea uS rfl 88 rfl (.tmp 85) (.tmp 87) rfl B (.slice a1 L.length c1) (L.map bK) (by simp[Act.eval]) O9 w4.heap.size (bK R) (by simp[Act.eval]) X9 d1 d2 (L.length+1) (by rw[M.out]) (by omega) (by have:=GE.size;have:=p.out;omega) ?_;intro a2 c2 w5 an a4 _;have G5:Hid (Gr u w5):=GE.grown a4 (fun q hq=>by have:=(O9.own hq).1;have:=p.out;omega))
    |(refine Ea uS rfl 88 rfl (.tmp 85) (.tmp 87) rfl B (.slice a1 L.length c1) (L.map bK) (by simp[Act.eval]) O9 (B+1) (bK R) (by simp[Act.eval]) X9 d1 d2 (L.length+1) (by rw[M.out]) (by omega) (by have:=GE.size;have:=p.out;omega) ?_;intro a2 c2 w5 an a4 _;have G5:Hid (Gr u w5):=GE.grown a4 (fun q hq=>by have:=(O9.own hq).1;have:=p.out;omega))
    |(refine Ea uS rfl 88 rfl (.tmp 85) (.tmp 87) rfl B (.slice a1 L.length c1) (L.map bK) (by simp[Act.eval]) O9 B (bK R) (by simp[Act.eval]) X9 d1 d2 (L.length+1) (by rw[M.out]) (by omega) (by have:=GE.size;have:=p.out;omega) ?_;intro a2 c2 w5 an a4 _;have G5:Hid (Gr u w5):=GE.grown a4 (fun q hq=>by have:=(O9.own hq).1;have:=p.out;omega)))
   all_goals
    go_wp2_with fail;go_ret2;exact⟨_,by rw[b.out];rfl,by rw[be.out,gD];exact an.sl,(HG.trans G3).trans G5⟩
 all_goals
  go_in;go_wp2_with fail;try simp only[hn]
  first
  |(go_ret2
    exact HE _ b (aH rfl) _ bd)
  |(rw[hU.out]
    clear O P S T U X Y Z k9 i j k l m;obtain⟨O,P,S,T,U,X,Y,Z,k9,i,j,k,l,m⟩:=I.out C (Gr.refl C);have G:=aA (Gr.refl C);repeat
     first
     |(refine ej (by kernel_rfl) (by kernel_rfl) ?_
       repeat (go_big_quiet_step ((first|(go_at_call 45;with_reducible exact eE (aa.out _))|(go_at_call 45;with_reducible exact eE (ab.out _))|(go_at_call 46;with_reducible exact eE (ar.out _)))))
       refine cX ?_;rintro _ ⟨q,rfl⟩;replace G:=aA (G.trans (cK _ q));clear O P S T U X Y Z k9 i j k l m;generalize gw _ q=V at*
       obtain⟨O,P,S,T,U,X,Y,Z,k9,i,j,k,l,m⟩:=I.out V G.out;go_wp2_with fail)
     |(with_reducible refine(ad.out _ G.out).mono ?_
       rintro _ V ⟨rfl,g⟩;replace G:=aA (G.trans g);go_wp2_with fail)
    go_ret2;exact HE _ b (aH rfl) _ G)
def ac5(L:List Rl)(k:bU)(a:bP)(rs:List Id):Int:=uV (chain L k.author) k.author k.number k.height k.root k.leaf (fX (dR k a rs))
def p7(L:List Rl)(k:bU)(a:bP)(rs:List Id)(g:Sg):Int:=if fK k a rs g=0 then sX (ac5 L k a rs)else 3
def abo(k:bU)(a:bP)(rs:List Id)(g:Sg)(B:Value)(L:List Rl)(v:Value)(w:aB)(G:iO k a)(F:fF w k a rs)(M:rs.length<=1000)(J:dM w B g.path)(d:bX w v 84 (L.map bK))(hl:L.length<=900):
  Calls prog 7 #[aE (dE k (aW g.leaf g.chains B)),v] w (RG w (.int .i64 (p7 L k a rs g))):=by
 obtain⟨n,W⟩:=ex w.heap.size;obtain⟨ap,cp,K⟩:=J.shape;obtain⟨S,x⟩:=ex (aW g.leaf g.chains B);have o:S.length=562:=by rw[<-x];exact d_ _ _ _
 have f:S[0]? =some (.int .i64 g.leaf):=by rw[<-x];exact wb _ _ _
 obtain⟨u,I,i,P⟩:=gO W (aC (dE k S) 34)
 have X:Hid (∀V,Gr u V->SF V n k S g.leaf):=fun V b=>uH o f ((b.block (aI P)).trans P)
 have Y:Hid (∀V,Gr u V->CG 17 #[aE (dE k S)] V (.int .i64 (fK k a rs g))):=fun V b=>by
  rw[<-x];exact Ic k a rs g B V G (F.gr (i.trans b)) M (J.gr (i.trans b))
 have Z:Hid (∀V,CG 20 #[aE (dE k S)] V (aE (aN k.height k.root))):=fun V=>M0 k S g.leaf V o f;have t:Hid (fK k a rs g=0->∀V,Gr u V->CG 19 #[aE (aX k)] V (aE (bC (fX (dR k a rs))))):=fun h V b=>CX k a rs V G (F.gr (i.trans b)) (yP h);have D:Hid (∀V,Gr u V->CG 21 #[v,aE (bC k.author),.int .i64 k.number,aE (aN k.height k.root),.int .i64 k.leaf,aE (bC (fX (dR k a rs)))] V (.int .i64 (ac5 L k a rs))):=fun V b=>Yn L v k.author k.number k.height k.root k.leaf (fX (dR k a rs)) V (d.gr (i.trans b)) hl;have p:Hid (p7 L k a rs g=if fK k a rs g=0 then sX (ac5 L k a rs)else 3):=rfl;rw[x];generalize p7 L k a rs g=R at*
 generalize fX (dR k a rs)=y at*
 generalize ac5 L k a rs=j at*
 generalize fK k a rs g=E at*
 generalize g.leaf=gl at*
 have H:SF (w.alloc (aC (dE k S) 34)) n k S gl:=uH o f (aY _ _ n W.symm);obtain⟨-,-,-,-,-,-,-,-,-,-,-,-,-,N,O,z⟩:=H
 replace I:=aA I;go_in;go_wp2_with fail;rw[I.out];refine bA (Y u (Gr.refl _)) fun m U=>?_;have s:=aA U;clear N O z U;by_cases r:E=0
 case neg=>
  have d:R=3:=by rw[p.out,aF r]
  have Q:(E==0)=false:=dI.2 r;have T:(E != 0)=true:=by simp[r]
  replace r:=aA r;subst d;go_wp2_with fail;go_ret;exact⟨rfl,i.trans s⟩
 subst r;replace p:=aA (p.trans (aG rfl));replace t:=aA (t rfl);obtain⟨h0,r0,-,-,-,cl,-,nb,-,-,-,a0,a1,N,O,z⟩:=X.out m s.out;replace t:Hid (∀V,Gr m V->_):=fun V b=>t V (s.trans b);replace D:Hid (∀V,Gr m V->_):=fun V b=>D V (s.trans b);go_wp2_with fail;refine ej (by kernel_rfl) (by kernel_rfl) ?_;repeat (go_big_quiet_step (first
   |(go_at_call 20;with_reducible exact eE (Z.out _))
   |(go_at_call 19;with_reducible exact eE (t.out _ (cK m _)))
   |(go_at_call 21;with_reducible exact eE (D.out _ (cK m _)))))
 refine cX ?_;rintro _ ⟨q,rfl⟩;have C:=aA (s.trans (cK m q));generalize gw m q=V at*
 by_cases c:j=0
 .have d:R=0:=by rw[p.out];unfold sX;rw[aG c]
  have Q:(j==0)=true:=by simp[c]
  replace c:=aA c;subst d;go_wp2_with fail;go_ret;exact⟨rfl,i.trans C⟩
 .have Q:(j==0)=false:=dI.2 c
  by_cases l:j=1
  .have d:R=1:=by rw[p.out];unfold sX;rw[aF c,aG l]
   have T:(j==1)=true:=by simp[l]
   replace c:=aA c;replace l:=aA l;subst d;go_wp2_with fail;go_ret;exact⟨rfl,i.trans C⟩
  .have d:R=2:=by rw[p.out];unfold sX;rw[aF c,aF l]
   have T:(j==1)=false:=dI.2 l;replace c:=aA c;replace l:=aA l;subst d;go_wp2_with fail;go_ret;exact⟨rfl,i.trans C⟩
end Go.Proofs.YtjfaogajmoffoaaGreatDoor
