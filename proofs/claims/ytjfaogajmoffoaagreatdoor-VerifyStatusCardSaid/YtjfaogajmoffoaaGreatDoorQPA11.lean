/- Lemmas for VerifyStatus. -/
import Derived.Test.YtjfaogajmoffoaaGreatDoorQPA10
set_option maxRecDepth 100000
set_option maxHeartbeats 16000000
set_option linter.all false
namespace Go.Proofs.YtjfaogajmoffoaaGreatDoor
open Go.RowKit Tryz
section
def OY(w:aB):(Instr.build 167 #[(0,.int .u32 1116352408),(1,.int .u32 1899447441),(2,.int .u32 3049323471),(3,.int .u32 3921009573),(4,.int .u32 961987163),(5,.int .u32 1508970993),(6,.int .u32 2453635748),(7,.int .u32 2870763221),(8,.int .u32 3624381080),(9,.int .u32 310598401),(10,.int .u32 607225278),(11,.int .u32 1426881987),(12,.int .u32 1925078388),(13,.int .u32 2162078206),(14,.int .u32 2614888103),(15,.int .u32 3248222580),(16,.int .u32 3835390401),(17,.int .u32 4022224774),(18,.int .u32 264347078),(19,.int .u32 604807628),(20,.int .u32 770255983),(21,.int .u32 1249150122),(22,.int .u32 1555081692),(23,.int .u32 1996064986),(24,.int .u32 2554220882),(25,.int .u32 2821834349),(26,.int .u32 2952996808),(27,.int .u32 3210313671),(28,.int .u32 3336571891),(29,.int .u32 3584528711),(30,.int .u32 113926993),(31,.int .u32 338241895),(32,.int .u32 666307205),(33,.int .u32 773529912),(34,.int .u32 1294757372),(35,.int .u32 1396182291),(36,.int .u32 1695183700),(37,.int .u32 1986661051),(38,.int .u32 2177026350),(39,.int .u32 2456956037),(40,.int .u32 2730485921),(41,.int .u32 2820302411),(42,.int .u32 3259730800),(43,.int .u32 3345764771),(44,.int .u32 3516065817),(45,.int .u32 3600352804),(46,.int .u32 4094571909),(47,.int .u32 275423344),(48,.int .u32 430227734),(49,.int .u32 506948616),(50,.int .u32 659060556),(51,.int .u32 883997877),(52,.int .u32 958139571),(53,.int .u32 1322822218),(54,.int .u32 1537002063),(55,.int .u32 1747873779),(56,.int .u32 1955562222),(57,.int .u32 2024104815),(58,.int .u32 2227730452),(59,.int .u32 2361852424),(60,.int .u32 2428436474),(61,.int .u32 2756734187),(62,.int .u32 3204031479),(63,.int .u32 3329325298)]).run prog w=.ok (aE (vX kV)) w:=by kernel_rfl
def acR(t:Nat)(h:t<64):kV[t]=kN t:=by
 unfold kN;rw[eD,cO (show t<kL.length from h)];rfl
def Wi(K:bF)(m:∀w,eG prog 167 #[(0,.int .u32 1116352408),(1,.int .u32 1899447441),(2,.int .u32 3049323471),(3,.int .u32 3921009573),(4,.int .u32 961987163),(5,.int .u32 1508970993),(6,.int .u32 2453635748),(7,.int .u32 2870763221),(8,.int .u32 3624381080),(9,.int .u32 310598401),(10,.int .u32 607225278),(11,.int .u32 1426881987),(12,.int .u32 1925078388),(13,.int .u32 2162078206),(14,.int .u32 2614888103),(15,.int .u32 3248222580),(16,.int .u32 3835390401),(17,.int .u32 4022224774),(18,.int .u32 264347078),(19,.int .u32 604807628),(20,.int .u32 770255983),(21,.int .u32 1249150122),(22,.int .u32 1555081692),(23,.int .u32 1996064986),(24,.int .u32 2554220882),(25,.int .u32 2821834349),(26,.int .u32 2952996808),(27,.int .u32 3210313671),(28,.int .u32 3336571891),(29,.int .u32 3584528711),(30,.int .u32 113926993),(31,.int .u32 338241895),(32,.int .u32 666307205),(33,.int .u32 773529912),(34,.int .u32 1294757372),(35,.int .u32 1396182291),(36,.int .u32 1695183700),(37,.int .u32 1986661051),(38,.int .u32 2177026350),(39,.int .u32 2456956037),(40,.int .u32 2730485921),(41,.int .u32 2820302411),(42,.int .u32 3259730800),(43,.int .u32 3345764771),(44,.int .u32 3516065817),(45,.int .u32 3600352804),(46,.int .u32 4094571909),(47,.int .u32 275423344),(48,.int .u32 430227734),(49,.int .u32 506948616),(50,.int .u32 659060556),(51,.int .u32 883997877),(52,.int .u32 958139571),(53,.int .u32 1322822218),(54,.int .u32 1537002063),(55,.int .u32 1747873779),(56,.int .u32 1955562222),(57,.int .u32 2024104815),(58,.int .u32 2227730452),(59,.int .u32 2361852424),(60,.int .u32 2428436474),(61,.int .u32 2756734187),(62,.int .u32 3204031479),(63,.int .u32 3329325298)] w=.ok (.value (aE K)) w)(i:K.length=64)(q:cN K=true)(w:aB):Calls prog 82 #[] w (RG w (aE K)):=by
 obtain⟨n,h⟩:=ex w.heap.size;have d:Hid (HB (w.alloc (aC (vX zX) 167)) n (vX zX) 167):=aY _ _ _ h.symm
 have g:Hid (Gr w (w.alloc (aC (vX zX) 167))):=(Gr.refl w).alloc _;have j:=aA h;have f:Hid (HB ((w.alloc (aC (vX zX) 167)).setCells n 0 K) n K 167):=bO d (by rw[oh,i])
 have c:=aA (g.setsOwn (b:=n) (by have:=j.out;omega) K 0);obtain⟨l,k⟩:=ex (w.alloc (aC (vX zX) 167));rw[k]at d g f c;have o:=aP d 0 64 (by simp[oh]);have p:=bE d 0 64;have a:(prog.info? 167).map (·.size)=some K.toArray.size:=by rw[bQ,i];kernel_rfl
 replace a:=aA a;go_in;go_wp2_with fail;refine bI (dY rfl _ _ n _ _ _ _ rfl f underlying167 rfl a) rfl ?_;exact⟨rfl,c⟩
def RT(w:aB):Calls prog 82 #[] w (RG w (aE (vX kV))):=
 Wi (vX kV) (fun w=>fe (OY w)) (oh _) (wS _) w
structure nH(W:aB)(n kb g o:Nat)(s:Wd)(P:aM):Prop where
 r:W.heap[n]? =some (aC (uL fP) 25)
 h:W.heap[n+1]? =some (aC (cI s) 166)
 k:W.heap[kb]? =some (aC (vX kV) 167)
 b:cS W g o P
 ne:n+1≠kb/\n+1≠g
def nH.gr{W c:aB}{n d g o:Nat}{s:Wd}{P:aM}(h:nH W n d g o s P)(a:Gr W c):nH c n d g o s P:=
 ⟨(a.block (aI h.r)).trans h.r,(a.block (aI h.h)).trans h.h,(a.block (aI h.k)).trans h.k,h.b.gr a,h.ne⟩
def cS.other{W:aB}{g o:Nat}{P:aM}(h:cS W g o P)(b j:Nat)(v:Value)(a:g≠b):cS (W.setCell (aD b j) v) g o P:=
 ⟨by simpa using h.1,fun i x c=>by
  have:=h.2 i x c;simp only[World.cell?]at this|-
  rw[cG W (aD b j) g v (by show g≠b;exact a)];exact this⟩
def nH.set{W:aB}{n a g o:Nat}{s:Wd}{P:aM}(h:nH W n a g o s P)(j:Nat)(d:j<8)(x:UInt32)(c:Wd)(e:(iA s).set j x=iA c):nH (W.setCell (aD (n+1) j) (.int .u32 (nW x))) n a g o c P:=
 ⟨(cG W (aD (n+1) j) n _ (by show n≠n+1;omega)).trans h.r,by
  rw[fC W (n+1) j _ _ _ h.h,yH s,yH c,<-e,tX];simp[cW],(cG W (aD (n+1) j) a _ (by have:=h.ne.1;show a≠n+1;omega)).trans h.k,h.b.other _ _ _ (by have:=h.ne.2;omega),h.ne⟩
def nH.cell{W:aB}{n b g o:Nat}{s:Wd}{P:aM}(h:nH W n b g o s P)(j:Nat)(a:j<8):W.cell? (aD (n+1) j)=some (.int .u32 (nW ((iA s)[j]'a))):=by
 rw[bH h.h j,yH,fo,cO (show j<(iA s).length from a)];rfl
def adW{W:aB}{b:Nat}{s:Wd}{t:TypeId}(h:HB W b (cI s) t) (j:Nat) (a:j<8):W.cell? (aD b j)=some (.int .u32 (nW ((iA s)[j]'a))):=by
 rw[bH h j,yH,fo,cO (show j<(iA s).length from a)];rfl
def TH(D:aM)(a:D.length=32)(j:Nat)(d:j<32)(W:aB)(b:Nat)(t:TypeId)(h:HB W b (uL (zp D j)) t):∃c:UInt8,W.cell? (aD b j)=some (.int .u8 (c.toNat:Int)):=
 ⟨_,(bH h j).trans (xL _ j (by rw[Mg _ _ a (by omega)];omega))⟩
@[local go_sem ↓ high] def agw (w:aB):Sem.run prog (zeroValue 25) w=.ok (aE (uL fP)) w:=by kernel_rfl
@[local go_sem ↓ high] def ag3 (w:aB):Sem.run prog (zeroValue 166) w=.ok (aE (cI kp)) w:=by kernel_rfl
@[go_sem] def agS:dZ prog 166 =true:=by kernel_rfl
@[go_sem] def agy:prog.cellsOf 166 =8:=by kernel_rfl
def P':cI pn=[.int .u32 1779033703,.int .u32 3144134277,.int .u32 1013904242,.int .u32 2773480762,.int .u32 1359893119,.int .u32 2600822924,.int .u32 528734635,.int .u32 1541459225]:=rfl
def acb(P:aM)(k:Nat)(h:64*k+64<=P.length):iT P (k+1)=mb (iT P k) (rT (el ((P.drop (64*k)).take 64)) (iT P k) 64):=by
 show jL (el (P.drop (64*k))) (iT P k)=_;unfold jL;rw[Lc (m':=el ((P.drop (64*k)).take 64))];intro j a;have:=EN ((P.drop (64*k)).take 64) ((P.drop (64*k)).drop 64) (j:=j) (by rw[dP,eh];omega);rw[lq]at this;exact this
def A6(v:Value)(l:aM)(w:aB)(hl:l.length<=800000)(hv:gC w v l):Calls prog 48 #[v] w (RG w (aE (bC (pX l)))):=by
 have a2:Hid (bC (pX l)=uL (kf (iT (jy l) ((jy l).length/64)))):=by
  show _=_;rw[<-uW,Bn];rfl
 rw[a2.out];have an:=aA (Me l);have ao:Hid (jy l≠[]):=by
  show _≠_;intro h;have:=ei List.length h;unfold jy at this;rw[bV,xC]at this;simp at this
 have bg:Hid ((jy l).length<=900000):=by
  show _<=_;unfold jy;rw[bV,xC];unfold fN;omega
 have hr:Hid (∀(x:UInt32) (n:Int) (w:aB),0<n->n<32->CG 85 #[.int .u32 (nW x),.int .i64 n] w (.int .u32 (nW (rI x n)))):=fun x n w=>MQ x n w;have am:Hid (∀W,Gr w W->Calls prog 83 #[v] W fun e w'=>∃v',e=.returned v'/\aZ w' W.heap.size v' (jy l)/\Gr W w'):=fun W hW=>acV v l W (by omega) (hv.gr hW);have aj:=aA RT;have au:=aA ac';generalize jy l=P at*
 obtain⟨nb,b7⟩:=ex (P.length/64);have a4:=aA (show P.length=64*nb by have:=an.out;omega)
 rw[b7];obtain⟨n,hn⟩:=ex w.heap.size;have HN:=aA hn;obtain⟨W0,hW,HG,H0,H1⟩:=gT hn (aC (uL fP) 25) (aC (cI pn) 166)
 have aq:=aA (show W0.heap.size=n+2 by rw[<-hW];simp;omega)
 rw[P']at hW;go_in;go_wp2_with fail;try rw[hW]
 replace hW:=aA hW;refine bA (aj W0) fun w1 g1=>?_;obtain⟨W2,K⟩:=ex (w1.alloc (aC (vX kV) 167));obtain⟨R,bk⟩:=ex w1.heap.size;have a3:Hid (HB W2 R (vX kV) 167):=K▸aY _ _ _ bk.symm
 have G2:Hid (Gr W0 W2):=K▸g1.alloc _
 have bc:=aA (show n+2<=R by have:=g1.size;have:=aq.out;omega)
 have k1:=oh kV;have k2:=wS kV;go_wp2_with fail;try rw[K]
 replace K:=aA K;refine(am W2 (HG.trans G2)).mono ?_;rintro e w3 ⟨v',rfl,ho,g3⟩;have ag:=aA ((HG.trans G2).trans g3);obtain⟨a5,c5,rfl,a9,h5⟩:=ho.bytN (b:=n+1) (fun e=>by have:=(fA ho _ e).1;have h2:=G2.size;have h3:=aq.out;omega);obtain⟨g,o,rfl,a0,b5⟩:∃g o,a5=some ⟨g,o,none⟩/\cS w3 g o P/\g≠n+1:=by
  rcases h5 with h|h
  .exact absurd h ao
  .exact h
 have ar:Hid (nH w3 n R g o (iT P 0) P):=by
  have q0:=(G2.trans g3).block (aI H0);have q1:=(G2.trans g3).block (aI H1);have q2:=g3.block (aI a3);exact⟨q0.trans H0,q1.trans H1,q2.trans a3,a0,by have:=bc.out;omega,fun e=>b5 e.symm⟩
 obtain⟨N,hN⟩:=ex P.length;have J:=aA hN;rw[hN]at a9|-
 have ai:=aA a9;go_wp2_with fail
 go_loopw [6] (fun i wr=>∃k:Nat,k<=nb/\i=.int .i64 ((64*k:Nat):Int)/\Hid (nH wr n R g o (iT P k) P)/\Hid (Gr w wr)) (fun i _=>64*nb-(intOf i).toNat)
 .exact⟨0,bW _,rfl,ar,ag⟩
 .
  obtain⟨k,hk,rfl,hS,hG⟩:=hrel;obtain⟨m,hm⟩:=ex (64*k);rw[hm];by_cases bo:k<nb
  .have b6:m+64<=N:=by have h1:=J.out;have h2:=a4.out;omega
   have i1:(m:Int)<(N:Int):=by omega
   have i2:=nn m
   obtain⟨m2,bn⟩:=ex (m+64);have e1:IntKind.i64.wrap ((m:Int)+64)=(m2:Int):=by rw[cV];have:=J.out;have:=bg.out;omega
   have i3:(m:Int)<=(m2:Int):=by omega
   have i4:(m2:Int)<=(c5:Int):=by have:=ai.out;omega
   have i5:m2-m=64:=by omega
   have i6:¬c5=m:=by have:=ai.out;omega
   obtain⟨C,ab⟩:=ex (el ((P.drop m).take 64));have ah:=aA (show ((P.drop m).take 64).length=64 by rw[dP,eh];have:=J.out;omega)
   have a6:=aA (fun c=>au g (o+m) c ((P.drop m).take 64) ah wr ((hS.b.dropV m).takeV 64));rw[ab]at a6;have bf:Hid (iT P (k+1)=mb (iT P k) (rT C (iT P k) 64)):=by
    show _=_;rw[<-ab,<-hm];exact acb P k (by have h1:=J.out;have h2:=a4.out;omega)
   generalize iT P k=s at*
   go_wp2_with fail;refine bA (a6 _) fun w4 g4=>?_;have S4:=aA (hS.gr g4);have G4:=aA (hG.trans g4);obtain⟨pw,b8⟩:=ex w4.heap.size;obtain⟨W5,az,G5,a8⟩:=gO b8 (aC (vX (kD C 64)) 167)
   have S5:=aA (S4.gr G5);have r0:=aP S5.h 0 8 (by simp[ik]);have r1:=(bJ S5.h 0 8 (by simp[ik])).trans (b_ _ _ (ik _));have r2:=aI S5.h;have r3:=ik s;have r4:=ug s;have r5:=oh (kD C 64);have r6:=wS (kD C 64);obtain⟨W6,L⟩:=ex (W5.alloc (aC (cI s) 166));obtain⟨F,Z⟩:=ex W5.heap.size;have G6:Hid (Gr W5 W6):=L▸(Gr.refl W5).alloc _
   have ax:Hid (HB W6 F (cI (rT C s 0)) 166):=L▸aY _ _ _ Z.symm
   have ap:=aA Z;go_wp2_with fail;try rw[L]
   try rw[Z]
   replace az:=aA az;replace L:=aA L;generalize wr=ba at*
   go_loopw [9] (fun j wr=>∃t:Nat,t<=64/\j=.int .i64 t/\Hid (HB wr F (cI (rT C s t)) 166)/\Hid (Gr W5 wr)) (fun j _=>64-(intOf j).toNat)
   .exact⟨0,bW _,rfl,ax,G6⟩
   .
    obtain⟨t,ht,rfl,hV,G⟩:=hrel;by_cases E:t<64
    .have j1:(t:Int)<64:=by omega
     have j2:=nn t
     have bh:Hid (rT C s (t+1)=mN (rT C s t) (kN t) (wT C t)):=rfl;have HF:Hid (∀V,Gr wr V->V.cell? (aD R t)=some (.int .u32 (nW (kN t)))/\V.cell? (aD pw t)=some (.int .u32 (nW (wT C t)))/\R<V.heap.size/\pw<V.heap.size/\F<V.heap.size/\HB V F (cI (rT C s t)) 166):=by
      intro V B;have b1:=((G.trans B).block (aI S5.k)).trans S5.k;have b2:=((G.trans B).block (aI a8)).trans a8;have b3:=(B.block (aI hV)).trans hV;refine⟨?_,?_,aI b1,aI b2,aI b3,b3⟩
      .rw[bH b1 t,Ap _ t E,acR t E];rfl
      .rw[bH b2 t,Ap _ t E,LY _ _ _ _ E];rfl
     generalize ad:rT C s (t+1)=bu at*
     replace ad:=aA ad;generalize rT C s t=p at*
     generalize kN t=kk at*
     generalize wT C t=ww at*
     have HR:=aA (NM p kk ww);have HT:=aA (Ms p kk ww);have HU:=aA (L9 p);generalize mN p kk ww=a1 at*
     generalize tR p kk ww=T at*
     generalize uR p=U at*
     obtain⟨k0,k3,k4,k5,k6,k7⟩:=HF.out wr (Gr.refl wr);obtain⟨d0,d1,d2,d3,d4,d5,d6,d7⟩:=uC k7;go_wp2_with fail;refine ej (by kernel_rfl) (by kernel_rfl) ?_;repeat (go_big_quiet_step ((go_at_call 85;with_reducible exact eE (hr.out _ _ _ (aH rfl) (aH rfl)))))
     refine cX ?_;rintro _ ⟨q,rfl⟩;have GV:Hid (Gr wr (gw wr q)):=cK wr q;obtain⟨k0,k3,k4,k5,k6,k7⟩:=HF.out _ GV.out;obtain⟨d0,d1,d2,d3,d4,d5,d6,d7⟩:=uC k7;generalize gw wr q=V at*
     try rw[show p.i+(rI p.e 6^^^rI p.e 11^^^rI p.e 25)+(p.e&&&p.f^^^~~~p.e&&&p.g)+kk+ww=T from HT.out.symm]
     go_wp2_with fail;refine ej (by kernel_rfl) (by kernel_rfl) ?_;repeat (go_big_quiet_step ((go_at_call 85;with_reducible exact eE (hr.out _ _ _ (aH rfl) (aH rfl)))))
     refine cX ?_;rintro _ ⟨q2,rfl⟩;have af:Hid (Gr wr (gw V q2)):=GV.trans (cK V q2);obtain⟨k0,k3,k4,k5,k6,k7⟩:=HF.out _ af.out;obtain⟨d0,d1,d2,d3,d4,d5,d6,d7⟩:=uC k7;have a7:=aA k7;generalize gw V q2=V2 at*
     have r0:=aP a7 0 8 (by simp[ik]);have r1:=bE a7 0 8;have HE:Hid (HB (V2.setCells F 0 (cI a1)) F (cI a1) 166):=bO a7 (by rw[ik,ik])
     have al:=aA ((G.trans af).setsOwn (b:=F) (by have:=ap.out;omega) (cI a1) 0);have HX:cI a1=[cW (T+U),cW p.a,cW p.b,cW p.c,cW (p.d+T),cW p.e,cW p.f,cW p.g]:=HR;try rw[show(rI p.a 2^^^rI p.a 13^^^rI p.a 22)+(p.a&&&p.b^^^p.a&&&p.c^^^p.b&&&p.c)=U from HU.out.symm]
     unfold cW at HX;have bi:=aA HX;rw[HX]at HE al;go_wp2_with fail;go_roundw
     .exact⟨t+1,by omega,by go_num,by show _=_;rw[ad.out,bh.out,bi.out];exact HE,al⟩
     .simp[intOf];omega
    .have j1:¬(t:Int)<64:=by omega
     obtain rfl:t=64:=by omega
     have aw:=hV;generalize rT C s 64=p at*
     have SA:Hid (nH wr n R g o (qC s p 0) P):=S5.gr G;have GA:=aA ((G4.trans G5).trans G);have bd:=aA (show n+1<F by have:=aI S5.h;have:=ap.out;omega)
     go_wp2_with fail;generalize wr=bv at*
     go_loopw [12] (fun j wr=>∃i:Nat,i<=8/\j=.int .i64 i/\Hid (nH wr n R g o (qC s p i) P)/\Hid (HB wr F (cI p) 166)/\Hid (Gr w wr)) (fun j _=>8-(intOf j).toNat)
     .exact⟨0,bW _,rfl,SA,aw,GA⟩
     .
      obtain⟨i,hi,rfl,S,X,ay⟩:=hrel;by_cases z:i<8
      .have j3:(i:Int)<8:=by omega
       have j4:=nn i
       have bb:=aA (PX s p i z);have HF:Hid (∀V,Gr wr V->V.cell? (aD (n+1) i)=some (.int .u32 (nW ((iA (qC s p i))[i]'z)))/\V.cell? (aD F i)=some (.int .u32 (nW ((iA p)[i]'z)))/\n+1<V.heap.size/\F<V.heap.size/\V.frozen? (aD (n+1) i)=false):=by
        intro V B;have s1:=S.gr B;have b3:=(B.block (aI X)).trans X;exact⟨s1.cell i z,adW b3 i z,aI s1.h,aI b3,ee s1.h i⟩
       have av:Hid (∀V,Gr wr V->∀x,x=(iA (qC s p i))[i]'z+(iA p)[i]'z->nH (V.setCell (aD (n+1) i) (.int .u32 (nW x))) n R g o (qC s p (i+1)) P/\HB (V.setCell (aD (n+1) i) (.int .u32 (nW x))) F (cI p) 166/\Gr w (V.setCell (aD (n+1) i) (.int .u32 (nW x)))):=by
        intro V B x hx;subst hx;refine⟨(S.gr B).set i z _ _ bb,?_,(ay.trans B).setOwn (b:=n+1) (o:=i) (by have:=HN.out;omega) _⟩;exact(cG V (aD (n+1) i) F _ (by have:=bd.out;show F≠n+1;omega)).trans ((B.block (aI X)).trans X)
       generalize(iA (qC s p i))[i]=x0 at*
       generalize(iA p)[i]=y0 at*
       obtain⟨f1,f2,f3,f4,f5⟩:=HF.out wr (Gr.refl wr);go_wp2_with fail;refine jd 8 (fun u=>∃q:GD,u=gw wr q) (by kernel_rfl) (by kernel_rfl) (nM wr) ?_;simp only[gR,fy,ib,gd];repeat (go_big_quiet_step (fail))
       refine cX ?_;rintro _ ⟨q,rfl⟩;obtain⟨u1,u2,u3⟩:=av.out (gw wr q) (cK wr q) _ rfl;have U1:=aA u1;have U2:=aA u2;have U3:=aA u3;obtain⟨f1,-,f3,-,f5⟩:=HF.out (gw wr q) (cK wr q);generalize gw wr q=V at*
       go_wp2_with fail;go_roundw
       .exact⟨i+1,by omega,by go_num,U1,U2,U3⟩
       .simp[intOf];omega
      .have j3:¬(i:Int)<8:=by omega
       obtain rfl:i=8:=by omega
       have SB:Hid (nH wr n R g o (iT P (k+1)) P):=by
        have:=S.out;rw[ac7]at this;rw[bf.out];exact this
       go_wp2_with fail;go_roundw
       .exact⟨k+1,by omega,by first|(go_num)|(congr 1;omega),SB,ay⟩
       .simp[intOf];omega
  .have b6:m=N:=by have h1:=J.out;have h2:=a4.out;omega
   have i1:¬(m:Int)<(N:Int):=by omega
   obtain rfl:k=nb:=by omega
   generalize ae:iT P k=s at*
   replace ae:=aA ae;have ak:=aA (Ym s);have I:Hid ((kf s).length=32):=yW s;obtain⟨D,hD⟩:=ex (kf s);rw[hD]at ak I;have HD:=aA hD;obtain⟨pd,O⟩:=ex wr.heap.size;have be:=aA O;obtain⟨W7,Y,G7,-⟩:=gO O (aC (uL fP) 25)
   have H7:Hid (HB W7 pd (uL (zp D 0)) 25):=by
    show _=_;rw[<-Y,show zp D 0=fP from rfl];exact aY _ _ _ O.symm
   go_wp2_with fail;try rw[Y]
   try rw[O]
   replace Y:=aA Y;generalize wr=ba at*
   go_loopw [14] (fun j wr=>∃i:Nat,i<=32/\j=.int .i64 i/\Hid (HB wr pd (uL (zp D i)) 25)/\Hid (Gr ba wr)) (fun j _=>32-(intOf j).toNat)
   .exact⟨0,bW _,rfl,H7,G7⟩
   .
    obtain⟨i,hi,rfl,Q,H⟩:=hrel;by_cases M:i<32
    .have q1:(i:Int)<32:=by omega
     have q2:=nn i
     have hd:=ak i M;obtain⟨j,hj⟩:=ex (i/4);have aa:j<8:=by omega
     obtain⟨r,ac⟩:=ex (i%4);have hq:(i:Int)/4=(j:Int):=by omega
     have bq:(i:Int).tdiv 4=(j:Int):=by rw[<-hj];rfl
     have bp:(i:Int).tmod 4=(r:Int):=AH (b:=4) ac;have bn:(i:Int)%4=(r:Int):=by omega
     have br:IntKind.i64.wrap (j:Int)=(j:Int):=pA j (by omega);have bt:IntKind.i64.wrap (r:Int)=(r:Int):=pA r (by omega);have j0:=nn j
     have j1:(j:Int)<8:=by omega
     obtain⟨kk,bm⟩:=ex (8*r);have e1:IntKind.i64.wrap (8*(r:Int))=(kk:Int):=by rw[cV];omega
     obtain⟨q,b9⟩:=ex (24-8*r);have e2:IntKind.i64.wrap (24-(kk:Int))=(q:Int):=by rw[cV];omega
     have q0:=nn q
     have q3:(q:Int)<=32:=by omega
     have S8:=hS.gr H;have f1:wr.cell? (aD (n+1) j)=some (.int .u32 (nW ((iA s)[j]'aa))):=S8.cell j aa
     have f2:=aI S8.h;have b4:D[i]? =some (((iA s)[j]'aa)>>>(UInt32.ofNat q)).toUInt8:=by subst hj;subst ac;rw[<-b9];exact hd
     generalize(iA s)[j]=x at*
     have e3:=vR x q (by omega);have e5:=NH (x>>>UInt32.ofNat q);generalize(x>>>UInt32.ofNat q).toUInt8=y at*
     have bj:=aA (M8 D i I M y b4);obtain⟨y0,f3⟩:=TH D I.out i M wr pd _ Q.out;have f4:=ee Q i;have f5:=aI Q;have HW:Hid (HB (wr.setCell (aD pd i) (cU y)) pd (uL (zp D (i+1))) 25):=by
      show _=_;rw[fC wr pd i _ _ _ Q.out,<-bj.out,<-xZ];simp
     have HG1:=aA (H.setOwn (b:=pd) (o:=i) (by have:=be.out;omega) (cU y));unfold cU at HW HG1;go_wp2_with fail;go_roundw
     .exact⟨i+1,by omega,by go_num,HW,HG1⟩
     .simp[intOf];omega
    .have q1:¬(i:Int)<32:=by omega
     obtain rfl:i=32:=by omega
     have hl:(uL D).length=32:=by rw[dJ];exact I
     rw[LN D I.out]at Q;have r0:=aP Q 0 32 (by simp[hl]);have q0:rowAt wr (aD pd 0) 32=uL D:=(bJ Q 0 32 (by simp[hl])).trans (b_ _ _ hl);have r5:=aI Q;have hZ:=(hS.gr H).r;have r1:=aP hZ 0 32 (by simp[dJ,sJ]);have r2:=bE hZ 0 32;have r6:=aI hZ;have r4:=mY D;have HE:Hid (HB (wr.setCells n 0 (uL D)) n (uL D) 25):=bO hZ (by rw[hl,dJ,sJ])
     have HG1:=aA ((hG.trans H).setsOwn (b:=n) (by have:=HN.out;omega) (uL D) 0);go_wp2_with fail;refine bI (dY rfl _ _ n _ _ _ _ rfl HE underlying25 rfl (by rw[bQ,hl];kernel_rfl)) rfl ?_;exact⟨by first|rfl|(rw[HD.out])|(rw[ae.out,HD.out]),HG1⟩
end
end Go.Proofs.YtjfaogajmoffoaaGreatDoor
