/- Lemmas for VerifyStatus. -/
import Derived.Test.YtjfaogajmoffoaaGreatDoorQPA22
set_option maxRecDepth 100000
set_option maxHeartbeats 16000000
set_option linter.all false
namespace Go.Proofs.YtjfaogajmoffoaaGreatDoor
open Go.RowKit Tryz
section
section
variable {P : Program} {ops : Array Oper} {md : Region.Mode} {C : World -> Prop}
def BO(md:Region.Mode)(a:Array Oper)(n:Nat):Bool:=
 (List.range a.size).all fun t=>decide (t<=n)||(List.range t).any fun j=>decide (n<=j)&&Region.waitsFor md a t j
theorem J3{n:Nat}{a:Array Bool}(y:Region.sinkB md ops n=true)(w:BO md ops n=true)(F:n<ops.size)(f:HeadInv md ops n a):
  ∀(d i:Nat),n-i<=d->i<n->a.getD i true=false->∀t,n<=t->t ∉ Region.ready md ops a:=by
 intro d
 induction d with
 |zero=>intro i g h2;omega
 |succ d A=>
  intro i E hi m t z v;obtain⟨_,D,l,h⟩:=tw.1 v;have s:=(bY.1 l).1
  have W:∀j,Region.waitsFor md ops t j=true->a.getD j true=false->False:=fun j k hl=>by
   obtain⟨B,q,e,p,o,c⟩:=Region.waitsFor_spec k;obtain rfl:B=D:=iP (q.symm.trans l);have h2:=h e p o;rw[c,getD_both hl]at h2;cases h2
  by_cases u:t=n
  .subst u
   obtain⟨j,k,b⟩:=mD.1 (gY.1 y i (pS.2 hi));simp only[fH,iK]at b;have x:j<=t:=Nat.lt_succ_iff.1 (pS.1 k);by_cases e:j=t
   .subst e;exact W i b.2 m
   .cases hl:a.getD j false with
    |true=>
     obtain⟨C,r,e',p,o,c⟩:=Region.waitsFor_spec b.2;have h2:=f.closed j C r hl e' p o;rw[c,getD_both m]at h2;cases h2
    |false=>exact A j (by omega) (by omega) (getD_in (by rw[f.size];omega) hl) t z v
  .have g:=gY.1 w t (pS.2 s)
   simp only[zJ,iK]at g;rcases g with g|g
   .omega
   .obtain⟨j,k,b⟩:=mD.1 g
    simp only[fH,iK]at b;exact W j b.2 (f.tail j b.1 (by have:=pS.1 k;omega))
theorem Hd.first2{n i:Nat}{oi:Oper}{v:Value}{L:Array Bool->Act->Prop}(hi:ops[i]? =some oi) (p:∀(j:Nat) (o:Oper) cs b,ops[j]? =some o->o.op≠.select cs b)
  (M:Region.sinkB md ops n=true) (J:BO md ops n=true) (K:n<ops.size) (z:i<n) (q:∀l a,L l a->∀j∈Region.ready md ops l,n<=j) (f:Nat):
  ∀(l:Array Bool) (a:Act),HeadInv md ops n l->
   (∀j u,ops[j]? =some u->j≠i->l.getD j true=false->(∀e∈u.after,Region.binds md e=true->e.on≠i)->oi.apart ops u=true)->
   i∈Region.ready md ops l->YieldsIn P ops C oi v a->Hd P md ops C n L f (l.setIfInBounds i true) (a.put oi.dst v)->Hd P md ops C n L (f+1) l a:=by
 induction f with
 |zero=>
  intro l a m _ t D H;have g:=(tw.1 t).1;refine⟨Ah t,fun j r=>?_⟩;have d:j<n:=zj fun h=>J3 M J K m _ i (aU _) z g j h r;by_cases e:j=i
  .exact⟨d,by rw[e];exact D.qOp hi H⟩
  .exact absurd (q _ _ H j (vY r e)) (by omega)
 |succ f S=>
  intro l a m c t D H;have g:=(tw.1 t).1;refine⟨Ah t,fun j r=>?_⟩;have d:j<n:=zj fun h=>J3 M J K m _ i (aU _) z g j h r;by_cases e:j=i
  .exact⟨d,by rw[e];exact D.qOp hi H⟩
  .obtain⟨A,u,s,y⟩:=tw.1 r
   have E:=c j u s e A fun x R O G=>by
    have:=y x R O;rw[G,getD_both g]at this
    cases this
   refine⟨d,qOp_mono (fun N I=>S (l.setIfInBounds j true) N (m.set r d) ?_ (vY t (td e)) I.1 ?_)
    (qOp_put s E (fun cs b=>p i oi cs b hi) (fun cs b=>p j u cs b s) D (H.2 j (vY r e)).2)⟩
   .intro k T Q F B hno
    refine c k T Q F ?_ hno;by_cases w:j=k
    .rw[<-w];exact A
    .rwa[getD_set_ne true w]at B
   .rw[Array.setIfInBounds_comm _ _ e];exact I.2
def BU(md:Region.Mode)(a:Array Oper)(F:Array Bool->Bool):Nat->Nat->Array Bool->Bool
 |0,_,l=>F l
 |f+1,k,l=>(Region.ready md a l).contains k&&Region.free md a l k&&BU md a F f (k+1) (l.setIfInBounds k true)
theorem Hd.lex2{n:Nat}{R:Act->Prop}{F:Array Bool->Bool}(d:Region.noSelect ops=true)(y:Region.sinkB md ops n=true)(u:BO md ops n=true)(x:n<ops.size)(r:∀l,F l=true->∀j∈Region.ready md ops l,n<=j)(h:List Oper):
  ∀(k:Nat) (l:Array Bool) (a:Act),(∀j,j<h.length->h[j]? =ops[k+j]?)->k+h.length=n->HeadInv md ops n l->BU md ops F h.length k l=true->wpQuiet P ops C R h a->
   Hd P md ops C n (fun i m=>F i=true/\R m) h.length l a:=by
 induction h with
 |nil=>intro k l a _ _ _ b g;exact⟨b,g⟩
 |cons o h A=>
  intro k l a p w e b g;have f:ops[k]? =some o:=by simpa using(p 0 (by simp)).symm
  simp only[dN,BU,fH]at b w;have q:k∈Region.ready md ops l:=by simpa using b.1.1
  have c:k<n:=by omega
  obtain⟨v,z,s⟩:=yieldsIn_of_qOp (K:=wpQuiet P ops C R h) (C:=C) (P:=P) f (by unfold qOp;simp only[f];exact g);refine Hd.first2 f (Region.noSelect_spec d) y u x c (fun i m t=>r i t.1) h.length l a e (Region.free_spec f b.1.2) q z (A (k+1) _ _ (fun j B=>?_) (by omega) (e.set q c) b.2 s);have:=p (j+1) (by simp;omega);simpa[l8,pl 1 j]using this
def Bf(md:Region.Mode)(a:Array Oper)(n:Nat)(l:Array Bool):Bool:=decide (Region.ready md a l=[n])&&Region.lexFrom md a (a.size-(n+1)) (n+1) (l.setIfInBounds n true)
def Ku(md:Region.Mode)(a:Array Oper)(n:Nat):Bool:=Region.noSelect a&&decide (n<a.size)&&Region.sinkB md a n&&BO md a n&&BU md a (Bf md a n) n 0 (Array.replicate a.size false)
theorem Vj{id:Nat}{Q:Exit->Act->aB->Prop}{a:Act}{w:aB}{l:List Oper}(n:Nat)(o:Oper)(C:aB->Prop)(L:P.follows .mixedOrders=true)(A:Ku .any l.toArray n=true)(M:l[n]? =some o) (K:o.guard=none) (I:C w.drew)
  (h:wpQuiet P l.toArray C (fun s=>∀w',C w'->o.wp P s w' (fun v e=>wpQuiet P l.toArray (fun u=>u=e) (fun q=>Q .normal q e) (l.drop (n+1)) v) Q) (l.take n) a):(Code.region id l.toArray true).wp P Q a w:=by
 simp only[Ku,fH,iK]at A;obtain⟨⟨⟨⟨c,B⟩,O⟩,J⟩,k⟩:=A
 have b:(l.take n).length=n:=by
  have:n<l.length:=by simpa using B
  simp;omega
 have f:(l.drop (n+1)).length=l.toArray.size-(n+1):=by simp
 have m:HeadInv .any l.toArray n (Array.replicate l.toArray.size false):=
  ⟨by simp,fun j T _ hl=>(by rw[zz]at hl;cases hl),fun t _ R=>getD_in (by simpa using R) (zz _ _)⟩
 have H:=Hd.lex2 (md:=.any) (C:=C) (F:=Bf .any l.toArray n) c O J B (fun D d j r=>by
  simp only[Bf,fH,iK]at d;rw[d.1]at r;have:j=n:=by simpa using r
  omega) (l.take n) 0 _ a (fun j r=>by
  have:j<n:=by rwa[b]at r
  simp[this]) (by rw[b,fB]) m (by rw[b];exact k) h
 refine wp_region_any L ?_
 have p:=Hd.any (Q:=Q) (g:=(l.toArray.size-(n+1))+1) (fun D s w' y x=>by
  obtain⟨d,x⟩:=x;simp only[Bf,fH,iK]at d;refine⟨fun h1=>(by rw[d.1]at h1;cases h1),fun i hi=>?_⟩;rw[d.1]at hi;obtain rfl:i=n:=by simpa using hi
  have E:l.toArray[i]? =some o:=by simpa using M
  unfold wpOp;simp only[E];have S:Region.wanted o (yielded l.toArray s.tmps)=true:=by simp[Region.wanted,K]
  rw[aG S];refine .inl (Oper.wp_mono (fun v e N=>?_) (x w' y));have:=wpAnyQ_lex (C:=fun u=>u=e) (md:=.any) c (l.drop (i+1)) (i+1) (D.setIfInBounds i true) v (fun j=>by simp[kM]) (by rw[f];exact d.2) N;rw[f]at this;exact wpAny_of_quiet (C:=fun u=>u=e) (Q:=fun q=>Q .normal q e) (Q':=Q) (fun q U z G=>by subst z;exact G) _ _ _ _ rfl this) _ _ _ w.drew I H
 rw[b,show n+(l.toArray.size-(n+1)+1)=l.toArray.size by omega]at p;exact p
end
end
structure I7(W:aB)(b o:Nat)(x:Sx):Prop where
 w0:hasRow W (aD b o) 637=true
 w1:rowAt W (aD b o) 637=gI x
 c0:hasRow W (aD b o) 75=true
 c1:rowAt W (aD b o) 75=aX x.k
 ct:W.cell? (aD b (o+53))=some (.string x.k.control)
 nb:W.cell? (aD b (o+55))=some (.int .i64 x.k.number)
 lf:W.cell? (aD b (o+73))=some (.int .i64 x.k.leaf)
 a0:hasRow W (aD b (o+1)) 16=true
 a1:rowAt W (aD b (o+1)) 16=bC x.k.author
 pv:W.cell? (aD b (o+75+561))=some x.pv
def X6{W:aB}{b o:Nat}{x:Sx}(a:hasRow W (aD b o) 637=true)(c:rowAt W (aD b o) 637=gI x):I7 W b o x:=by
 have f:=qh a c
 have d:∀j v,(aX x.k)[j]? =some v->W.cell? (aD b (o+j))=some v:=fun j v e=>f j _ (by
  show(aX x.k++_)[j]? =_
  rw[oS (nG.1 e).1];exact e)
 refine⟨a,c,pq a 0 75 (aH rfl),(pV a c 0 75 (aH rfl)).trans ?_,d 53 _ (xu _),d 55 _ (z' _),d 73 _ (Ce _),pq a 1 16 (aH rfl),(pV a c 1 16 (aH rfl)).trans ?_,?_⟩
 .exact En x.k _
 .show dD (aX x.k++_) 1 16=_
  rw[Cz _ _ 1 16 (by rw[dO];decide)];exact wU _
 .rw[l8]
  refine f 636 _ ?_;show(aX x.k++aW x.g.leaf x.g.chains x.pv)[636]? =_
  rw[rR (by rw[dO];decide),dO];exact sE _ _ _
def adu(w:aB)(l:List Sx)(c:dB):Prop:=∀k (hk:k<l.length),∃a b,c=some (aD a b)/\∀V,Gr w V->I7 V a (b+k*637) l[k]/\a<V.heap.size
def FF{w:aB}{l:List Sx}{v:Value}(h:bX w v 637 (l.map gI)):∃b a,v=.slice b l.length a/\adu w l b:=by
 obtain⟨b,a,e,n,i⟩:=h;rw[cL]at e;refine⟨b,a,e,fun k j=>?_⟩;obtain⟨f,m,g,d,u1,u2⟩:=i k (by rw[cL];exact j);rw[ig]at u2;exact⟨f,m,g,fun V c=>⟨X6 ((c.hasRow d).trans u1) ((c.rowAt d).trans u2),dQ d c.size⟩⟩
def lL(x:Sx):Cm×Nat×Int:=oj (bl x.k.control)
def r_(x:Sx):Rl:=sL (fX (dR x.k x.gs x.rs)) x.k x.hn (lL x).1.height (lL x).1.root
def Dr(x:Sx):Prop:=(lL x).2.2=0/\(lL x).1.kind=5/\fK x.k x.gs x.rs x.g=0
instance (x : Sx) : Decidable (Dr x) := by unfold Dr; infer_instance
def wW(L:List Rl)(x:Sx):List Rl:=if Dr x then oV L (r_ x) (lL x).1.kind (lL x).1.number else L
def gB(l:List Sx):List Rl:=l.foldl wW []
def CM(l:List Sx)(k:Nat)(h:k<l.length):gB (l.take (k+1))=wW (gB (l.take k)) l[k]:=by
 unfold gB;rw[eF h,ta];rfl
def xk(l:List Sx):∀k,k<=l.length->(gB (l.take k)).length<=k
 |0,_=>by simp[gB]
 |k+1,h=>by
  rw[CM l k (by omega)];have a:=xk l k (by omega);unfold wW;split
  .have:=VV (gB (l.take k)) (r_ l[k]) (lL l[k]).1.kind (lL l[k]).1.number
   omega
  .omega
def CR(l:List Sx):∀k,k<=l.length->ny (gB (l.take k))
 |0,_=>by simpa[gB]using ny.nil
 |k+1,h=>by
  rw[CM l k (by omega)];have a:=CR l k (by omega);unfold wW;split
  .exact a.next _ _ _
  .exact a
def SH(f g h k:Nat->Value)(n m:Int)(w:aB):(Instr.build 76 #[(0,aE ((List.range 32).map f)),(1,aE ((List.range 16).map g)),(2,.int .i64 n),(3,aE ((List.range 17).map h)),(4,.int .i64 m),(5,aE ((List.range 17).map k))]).run prog w
  =.ok (aE ((List.range 32).map f++(((List.range 16).map g++[Value.int .i64 n])++((List.range 17).map h++(Value.int .i64 m::(List.range 17).map k))))) w:=by kernel_rfl
@[go_sem] def aev (i:Id) (a:aK) (n h:Int) (r:aK) (d b:Int) (c:aK) (w:aB):eG prog 76 #[(0,aE (bC i)),(1,aE (bC a)),(2,.int .i64 n),(3,aE (aN h r)),(4,.int .i64 d),(5,aE (aN b c))] w
  =.ok (.value (aE (bC i++(ef a n++(aN h r++(.int .i64 d::aN b c)))))) w:=fe (by
 unfold ef;rw[gi (bC i) 32 (cC i),gi (bC a) 16 (aO a),gi (aN h r) 17 (bG h r),gi (aN b c) 17 (bG b c)];exact SH _ _ _ _ n d w)
def ad9(l:List Sx)(v:Value)(w:aB)(hv:bX w v 637 (l.map gI))(hx:∀x∈l,nw w x)(hf:∀x∈l,iO x.k x.gs/\x.rs.length<=30)(hl:l.length<=900):
  Calls prog 6 #[v] w fun e w'=>∃v',e=.returned v'/\bX w' v' 84 ((gB l).map bK)/\Gr w w':=by
 obtain⟨ad,cap,rfl,hrow⟩:=FF hv;have HROW:=Lib.hid hrow;have HX:=Lib.hid hx;have HFT:=Lib.hid hf;have HLN:=Lib.hid (xk l);have HSU:=Lib.hid (CM l);clear hv hrow hx hf;go_in;go_wp2_with fail
 go_loopw [3,4] (fun v i wr=>∃(k:Nat) (a2:dB) (n2 c2:Nat),k<=l.length/\v=.slice a2 n2 c2/\i=.int .i64 (k:Int)/\Hid (bX wr (.slice a2 n2 c2) 84 ((gB (l.take k)).map bK))/\Hid (Gr w wr)) (fun _ i _=>l.length-(intOf i).toNat)
 .exact⟨0,none,0,0,Nat.zero_le _,rfl,rfl,⟨none,0,rfl,Nat.le_refl _,fun j hj=>absurd hj (Nat.not_lt_zero _)⟩,Gr.refl w⟩
 .
  obtain⟨k,a2,n2,c2,hk,rfl,rfl,hS,hG⟩:=hrel;by_cases hlt:k<l.length
  .have q1:(k:Int)<(l.length:Int):=by omega
   have q2:(0:Int)<=(k:Int):=by omega
   obtain⟨b0,o0,rfl,hrow⟩:=HROW.out k hlt;have HRW:=Lib.hid hrow;have HXK:=Lib.hid (HX _ (List.getElem_mem hlt));have HFK:=Lib.hid (HFT _ (List.getElem_mem hlt));have HRL:=Lib.hid (HLN k hk);have HSK:=Lib.hid (HSU k hlt);clear hrow;generalize l[k]=x at*
   obtain⟨L,hL⟩:∃L,gB (l.take k)=L:=⟨_,rfl⟩;rw[hL]at hS HRL HSK;clear hL;obtain⟨⟨f1,f2,f3,f4,f5,f6,f7,f8,f9,-⟩,fz⟩:=HRW.out wr hG.out;have HPS:Hid (Calls prog 16 #[.string x.k.control] wr (jX (lL x) wr)):=Mz x.k.control wr;go_wp2_with fail;refine HPS.mono ?_;rintro e w1 ⟨vm,rfl,hau,g1⟩;clear f1 f2 f3 f4 f5 f6 f7 f8 f9 fz HPS;have HST:Hid (wW L x=if(lL x).2.2=0/\(lL x).1.kind=5/\fK x.k x.gs x.rs x.g=0 then oV L (r_ x) (lL x).1.kind (lL x).1.number else L):=rfl;have HRK:Hid (r_ x=sL (fX (dR x.k x.gs x.rs)) x.k x.hn (lL x).1.height (lL x).1.root):=rfl;have hone:cN (aL (lL x).1 vm)=true:=by
    obtain⟨a9,c9,rfl,-⟩:=hau;exact DI _ _ rfl
   generalize lL x=pr at*
   obtain⟨c,at_,E0⟩:=pr;dsimp only at HST HRK hone|-
   have G1:=Lib.hid (hG.trans g1);have D1:=cA c vm;obtain⟨bd,hbd⟩:∃b,w1.heap.size=b:=⟨_,rfl⟩;obtain⟨W4,hW4⟩:∃W4,w1.alloc (aC (aL c vm) 66)=W4:=⟨_,rfl⟩;have G4:Hid (Gr w1 W4):=by show Gr _ _;rw[<-hW4];exact(Gr.refl w1).alloc _
   have K4:=aA (show HB W4 bd (aL c vm) 66 by rw[<-hW4];exact aY _ _ _ hbd.symm)
   have GW4:=Lib.hid (G1.trans G4);have S4:=Lib.hid (bX.gr hS (g1.trans G4));have m0:=(iX K4).1;obtain⟨⟨f1,f2,f3,f4,f5,f6,f7,f8,f9,-⟩,fz⟩:=HRW.out W4 GW4.out;have lx:=vt x;have ox:=HXK.one;have hbz:=aI K4;clear g1 hau hS hG;by_cases e0:E0=0
   case neg=>
    have e1:(E0==0)=false:=beq_eq_false_iff_ne.2 e0;have e2:(E0 != 0)=true:=by simp[e0]
    have HN:=aA (show gB (l.take (k+1))=L by rw[HSK.out,HST.out,if_neg (fun q=>e0 q.1)])
    replace e0:=Lib.hid e0;go_wp2_with fail;try rw[hW4]
    replace hW4:=Lib.hid hW4;clear m0 f1 f2 f3 f4 f5 f6 f7 f8 f9 fz;go_roundw
    .exact⟨k+1,a2,n2,c2,by omega,rfl,by go_num,by rw[HN.out];exact S4,GW4⟩
    .simp[intOf];omega
   subst e0;by_cases e0:c.kind=5
   case neg=>
    have e1:(c.kind==5)=false:=beq_eq_false_iff_ne.2 e0;have e2:(c.kind != 5)=true:=by simp[e0]
    have HN:=aA (show gB (l.take (k+1))=L by rw[HSK.out,HST.out,if_neg (fun q=>e0 q.2.1)])
    replace e0:=Lib.hid e0;go_wp2_with fail;try rw[hW4]
    replace hW4:=Lib.hid hW4;clear m0 f1 f2 f3 f4 f5 f6 f7 f8 f9 fz;go_roundw
    .exact⟨k+1,a2,n2,c2,by omega,rfl,by go_num,by rw[HN.out];exact S4,GW4⟩
    .simp[intOf];omega
   have e1:(c.kind==5)=true:=by simp[e0]
   have e2:(c.kind != 5)=false:=by simp[e0]
   have HKD:=Lib.hid e0;clear e0
   have HER:Hid (CG 17 #[.agg (gI x).toArray] W4 (.int .i64 (fK x.k x.gs x.rs x.g))):=by
    unfold gI;exact Ic x.k x.gs x.rs x.g x.pv W4 HFK.1 (HXK.c.c.gr GW4) (by have:=HFK.2;omega) (HXK.p.gr GW4)
   go_wp2_with fail;try rw[hW4]
   refine HER.mono ?_;rintro e w5 ⟨rfl,g5⟩;replace hW4:=Lib.hid hW4;have G5:=Lib.hid (GW4.trans g5);have K5:=Lib.hid ((g5.block (aI K4)).trans K4);have S5:=Lib.hid (bX.gr S4 g5);clear m0 f1 f2 f3 f4 f5 f6 f7 f8 f9 fz hbz g5 HER;by_cases e0:fK x.k x.gs x.rs x.g=0
   case neg=>
    have HN:=aA (show gB (l.take (k+1))=L by rw[HSK.out,HST.out,if_neg (fun q=>e0 q.2.2)])
    generalize fK x.k x.gs x.rs x.g=E at*
    have e3:(E==0)=false:=beq_eq_false_iff_ne.2 e0;have e4:(E != 0)=true:=by simp[e0]
    replace e0:=Lib.hid e0;go_wp2_with fail;go_roundw
    .exact⟨k+1,a2,n2,c2,by omega,rfl,by go_num,by rw[HN.out];exact S5,G5⟩
    .simp[intOf];omega
   have HCK:=Lib.hid (yP e0);have HN:=aA (show gB (l.take (k+1))=oV L (r_ x) c.kind c.number by rw[HSK.out,HST.out,if_pos ⟨by trivial,HKD.out,e0⟩])
   rw[e0]
   have T2:Hid (∀V,CG 20 #[.agg (gI x).toArray] V (.agg (aN x.k.height x.k.root).toArray)):=fun V=>by
    unfold gI;exact M0 x.k (aW x.g.leaf x.g.chains x.pv) x.g.leaf V (d_ _ _ _) (wb _ _ _)
   have T3:Hid (∀V,Gr w5 V->CG 19 #[.agg (aX x.k).toArray] V (.agg (bC (fX (dR x.k x.gs x.rs))).toArray)):=fun V hV=>CX x.k x.gs x.rs V HFK.1 (HXK.c.c.gr (G5.trans hV)) HCK
   have T4:Hid (∀V,Gr w5 V->Calls prog 18 #[.slice a2 n2 c2,.agg (bC (fX (dR x.k x.gs x.rs))++(ef x.k.author x.k.number++(aN x.k.height x.k.root++(.int .i64 x.k.leaf::aN c.height c.root)))).toArray,.int .i64 c.kind,.int .i64 c.number] V (AV L (r_ x) c.kind c.number V)):=fun V hV=>by
    have:=SN L (.slice a2 n2 c2) (r_ x) c.kind c.number V (bX.gr S5 hV) (by have:=HRL.out;omega);rw[HRK.out]at this|-
    exact this
   generalize r_ x=yk at*
   generalize fX (dR x.k x.gs x.rs)=y at*
   have b75:=HXK.c.c.one;have l75:=dO x.k;have b1:=aO x.k.author;have b2:=cZ x.k.author;have b3:=cC y;have b4:=gE y;have b5:=bG x.k.height x.k.root;have b6:=h_ x.k.height x.k.root;have b7:=aO c.root;have b8:=cZ c.root;have b9:=bG c.height c.root;have b10:=h_ c.height c.root;obtain⟨m1,-,-,-,-,-,m2,m3,-,-,-,-,m4,m5,-,-,mz⟩:=iX K5.out;obtain⟨⟨f1,f2,f3,f4,f5,f6,f7,f8,f9,-⟩,fz⟩:=HRW.out w5 G5.out;go_wp2_with fail;refine Vj 40 _ (fun u=>∃q:GD,u=gw w5 q) (by kernel_rfl) (by kernel_rfl) rfl rfl (nM w5) ?_;simp only[List.take_succ_cons,List.take_zero,List.drop_succ_cons,List.drop_zero];repeat (go_big_quiet_step (first
     |(go_at_call 20;with_reducible exact eE (T2.out _))
     |(go_at_call 19;with_reducible exact eE (T3.out _ (cK w5 _)))))
   refine wpQuiet_nil ?_;rintro _ ⟨q,rfl⟩;have G6:=Lib.hid (cK w5 q);clear m1 m2 m3 m4 m5 mz f1 f2 f3 f4 f5 f6 f7 f8 f9 fz;generalize gw w5 q=V at*
   refine KN (f:=18) (args:=#[.slice a2 n2 c2,.agg (bC y++(ef x.k.author x.k.number++(aN x.k.height x.k.root++(.int .i64 x.k.leaf::aN c.height c.root)))).toArray,.int .i64 c.kind,.int .i64 c.number]) (by go_simp) ?_;refine(T4 V G6).mono ?_;rintro e w6 ⟨v3,rfl,hS6,g6⟩;refine⟨_,rfl,?_⟩;obtain⟨a3,c3,rfl,-,-⟩:=id hS6;obtain⟨n3,hn3⟩:∃n3,((oV L yk c.kind c.number).map bK).length=n3:=⟨_,rfl⟩;rw[hn3]at hS6|-
   have S6:=Lib.hid hS6;clear hn3;have G7:=Lib.hid ((G5.trans G6).trans g6);clear hS6 g6;generalize im L yk c.kind c.number=ea at*
   simp only[Act.put,List.setIfInBounds_toArray,List.set_cons_succ,List.set_cons_zero];repeat (go_big_quiet_step (fail))
   refine wpQuiet_nil ?_;go_wp2_with fail;go_roundw
   .exact⟨k+1,a3,n3,c3,by omega,rfl,by go_num,by rw[HN.out];exact S6,G7⟩
   .simp[intOf];omega
  .obtain rfl:k=l.length:=by omega
   have q1:¬(l.length:Int)<(l.length:Int):=by omega
   rw[List.take_length]at hS;go_wp2_with fail;go_ret;exact⟨_,rfl,hS,hG⟩
def r8(l:bP):Int:=l.foldl (fun z s=>wrap64 (z+(s.size:Int))) 0
def UO(l:bP)(k:Nat)(h:k<l.length):r8 (l.take (k+1))=wrap64 (r8 (l.take k)+(l[k].size:Int)):=by
 unfold r8;rw[eF h,ta];rfl
def Xr(l:bP)(h:∀s∈l,s.size<=140737488351232)(i:l.length<=30):r8 l=((l.map (·.size)).sum:Nat):=by
 suffices H:∀(l:bP) (z m:Nat),(∀s∈l,s.size<=140737488351232)->m+l.length<=30->z<=m*140737488351232->l.foldl (fun z s=>wrap64 (z+(s.size:Int))) (z:Int)=((z+(l.map (·.size)).sum:Nat):Int) by
  have:=H l 0 0 h (by omega) (by omega);simpa[r8]using this
 intro l
 induction l with
 |nil=>intro z m _ _ _;simp
 |cons s l f=>
  intro z m a b d;have g:=a s (by simp);simp only[dN]at b;rw[ml,gt,yq];have e:wrap64 ((z:Int)+(s.size:Int))=((z+s.size:Nat):Int):=(rG _).symm.trans (by rw[cV];have:z<=30*140737488351232:=eu d (AQ _ (by omega));omega);rw[e,f (z+s.size) (m+1) (fun x c=>a x (by simp[c])) (by omega) (by rw[Be];omega),l8]
def y9(R:Prop)(w:aB)(e:Ending)(w':aB):Prop:=∃b:Bool,e=.returned (.bool b)/\(b=true->R)/\Gr w w'
def zd(k:bU)(a:bP)(rs:List Id):Prop:=iO k a/\rs.length<=30
def Yp(k:bU)(a:bP)(rs:List Id)(w:aB)(j:wu w k a rs):Calls prog 15 #[aE (aX k)] w (y9 (zd k a rs) w):=by
 obtain⟨n,hn⟩:=ex w.heap.size;obtain⟨S,L,J,N⟩:=gO hn (aC (aX k) 28)
 obtain⟨⟨G,ga,gc,v,a1⟩,⟨ra,rc,y,a2,-⟩⟩:=j.c;have H:=G;obtain⟨W,X,q,F⟩:=H;obtain⟨rfl,-,rfl⟩:ga=W/\True/\gc=X:=by rw[v]at q;simpa using q
 rw[cL]at y a2;have O:=aA F;have g:=sF N;have c3:S.cell? (aD n 18)=some (.slice ga a.length gc):=by rw[g.groups,v]
 have c5:S.cell? (aD n 20)=some (.slice ra rs.length rc):=by rw[g.refs,y]
 have c0:=g.name;have c4:=g.subject;have c7:=g.control;have c8:=g.dist;have a5:=g.body;have cz:=aI N;have s1:=j.z1;have s2:=j.z2;have s3:=j.z3;have s4:=j.z4;have s5:=j.z5;have lg:=j.lg
 have r:Hid (a.length<=30->r8 a<=3000->rs.length<=30->k.name.size+k.subject.size+k.control.size+k.dist.size<=2000->k.body.size<=2000->zd k a rs):=fun Y K h3 h4 h5=>by
  rw[Xr a j.zg Y]at K;exact⟨⟨h4,h5,Y,by omega,j.n,j.d,j.l⟩,h3⟩
 have R:=aA (UO a);clear g G F q v y a1;obtain⟨t,a6⟩:∃z,(k.name.size:Int)=z:=⟨_,rfl⟩;obtain⟨u,a7⟩:∃z,(k.subject.size:Int)=z:=⟨_,rfl⟩;obtain⟨B,a8⟩:∃z,(k.control.size:Int)=z:=⟨_,rfl⟩;obtain⟨M,a9⟩:∃z,(k.dist.size:Int)=z:=⟨_,rfl⟩;obtain⟨ze,aa⟩:∃z,(k.body.size:Int)=z:=⟨_,rfl⟩;obtain⟨I,ab⟩:∃z,(a.length:Int)=z:=⟨_,rfl⟩;obtain⟨zr,ac⟩:∃z,(rs.length:Int)=z:=⟨_,rfl⟩;have C:Hid (I<=30->r8 a<=3000->zr<=30->t+u+B+M<=2000->ze<=2000->zd k a rs):=fun Y K h3 h4 h5=>r (by omega) K (by omega) (by omega) (by omega);have w1:wrap64 (t+u)=t+u:=(rG _).symm.trans (by rw[cV];omega);have w2:wrap64 (t+u+B)=t+u+B:=(rG _).symm.trans (by rw[cV];omega);have w3:wrap64 (t+u+B+M)=t+u+B+M:=(rG _).symm.trans (by rw[cV];omega);have Q:Hid (∀m:Nat,(m:Int)<I↔m<a.length):=fun m=>by show(m:Int)<I↔m<a.length;omega
 have a4:=aA L;have P:=aA lg;clear s1 s2 s3 s4 s5 lg r N;obtain⟨i0,i1,i2⟩:True/\True/\True:=⟨eV,eV,eV⟩;go_in;go_wp2_with fail;try simp only[hn]
 try rw[L]
 replace L:=aA L
 go_loopw [3,4] (fun f i wr=>∃(m:Nat) (Z:Int),m<=a.length/\f=.int .i64 Z/\i=.int .i64 (m:Int)/\wr=S/\Hid (Z=r8 (a.take m))) (fun _ i _=>a.length-(intOf i).toNat)
 .exact⟨0,0,bW _,rfl,rfl,rfl,rfl⟩
 .
  obtain⟨m,Z,hm,rfl,rfl,rfl,hZ⟩:=hrel;by_cases x:m<a.length
  .have q1:(m:Int)<I:=(Q m).2 x
   have q2:=nn m
   obtain⟨b,o,rfl,hb,E⟩:=O.out m x;have a3:=(J.cell (p:=⟨b,o+m,none⟩) hb).trans E;have hs:=R m x;generalize a[m]=s at*
   have HS:=aA hs;clear E hb hs;go_wp2_with fail;have e:wrap64 ((m:Int)+1)=((m+1:Nat):Int):=(rG _).symm.trans (by have:=P.out;rw[cV];omega);rw[e];clear e;go_roundw
   .exact⟨m+1,_,by omega,rfl,rfl,eV,by show _=_;rw[HS.out,<-hZ.out]⟩
   .simp[intOf];omega
  .obtain rfl:m=a.length:=by omega
   rw[jS]at hZ;rw[<-hZ.out]at C;by_cases D:I<=30/\Z<=3000/\zr<=30/\t+u+B+M<=2000/\ze<=2000
   .obtain⟨D,c2,T,U,V⟩:=D
    have HB:=aA (C D c2 T U V);go_wp2_with fail;go_ret;exact⟨true,rfl,fun _=>HB,J⟩
   .have HN:=aA D
    clear D;go_wp2;all_goals
     go_ret;first
      |exact⟨false,rfl,fun h=>absurd h (aH rfl),J⟩
      |exact⟨decide (ze<=2000),rfl,fun h=>by have K:=oG h;have:=HN.out;exfalso;omega,J⟩
def oq(x:Sx):Prop:=zd x.k x.gs x.rs/\x.g.path.length<=8
def Hm(l:List Sx)(v:Value)(w:aB)(K:bX w v 637 (l.map gI))(z:∀x∈l,nw w x)(J:l.length<=9223372036854775807):
  Calls prog 5 #[v] w (y9 ((∀x∈l,oq x)/\l.length<=8) w):=by
 obtain⟨W,P,rfl,a⟩:=FF K;have o:=aA a;have O:=aA z;have C:=aA J;clear K a z J;go_in;go_wp2_with fail
 go_loopw [3] (fun i wr=>∃k:Nat,k<=l.length/\i=.int .i64 (k:Int)/\Hid (Gr w wr)/\Hid (∀j (h:j<l.length),j<k->oq l[j])) (fun i _=>l.length-(intOf i).toNat)
 .exact⟨0,bW _,rfl,Gr.refl w,fun j _ h=>absurd h (lZ _)⟩
 .
  obtain⟨k,hk,rfl,u,H⟩:=hrel;by_cases s:k<l.length
  .have V:(k:Int)<(l.length:Int):=by omega
   have q2:=nn k
   obtain⟨Y,o0,rfl,a⟩:=o.out k s;have d:=aA a;have q:=aA (O _ (kA s))
   have D:Hid (oq l[k]->∀j (h:j<l.length),j<k+1->oq l[j]):=fun h j y T=>by
    by_cases e:j=k
    .subst e;exact h
    .exact H j y (by omega)
   clear a;generalize l[k]=x at*
   obtain⟨⟨-,-,Q,R,-,-,-,-,-,-⟩,F⟩:=d.out wr u.out;obtain⟨X,Z,t⟩:=q.out.p.shape;have n:=aA (Yp x.k x.gs x.rs wr (q.c.gr u));have E:=aA t;clear t;go_wp2_with fail;refine n.mono ?_;rintro e L ⟨b,rfl,I,G⟩;have f:=aA (u.trans G);have M:=aA I;clear Q R F G I n
   cases b with
   |false=>
    go_wp2_with fail;go_ret;exact⟨false,rfl,fun h=>absurd h (aH rfl),f⟩
   |true=>
    have S:=(d L f).1.pv;have F:=(d L f).2;rw[E.out]at S;by_cases r:x.g.path.length<=8
    .have U:¬(8:Int)<(x.g.path.length:Int):=by omega
     have N:=aA (D ⟨M rfl,r⟩);have B:wrap64 ((k:Int)+1)=((k+1:Nat):Int):=(rG _).symm.trans (by have:=C.out;rw[cV];omega);replace B:=aA B;replace r:=aA r;go_wp2_with fail;rw[B.out];go_roundw
     .exact⟨k+1,by omega,rfl,f,N⟩
     .simp[intOf];omega
    .have U:(8:Int)<(x.g.path.length:Int):=by omega
     replace r:=aA r;go_wp2_with fail;go_ret;exact⟨false,rfl,fun h=>absurd h (aH rfl),f⟩
  .obtain rfl:k=l.length:=by omega
   have V:¬(l.length:Int)<(l.length:Int):=by omega
   have m:Hid (∀x∈l,oq x):=fun x z=>by
    obtain⟨j,y,rfl⟩:=pD z;exact H j y y
   go_wp2_with fail;go_ret;exact⟨_,rfl,fun h=>⟨m,by have:=oG h;omega⟩,u⟩
def ZF:om 30 22 16 16:=rE underlying30 (by kernel_rfl) (aH rfl) (aH rfl)
def U_{W:aB}{b o n:Nat}{cs:bF}(a:hasRow W (aD b o) n=true)(c:rowAt W (aD b o) n=cs):W.rangeAt b o cs:=fun j v d=>qh a c j v d
def aah(x:Int)(f:Nat->Value)(a:dB)(m c:Nat)(w:aB):(Instr.build 47 #[(0,.int .i64 x),(1,aE ((List.range 560).map f)),(2,.slice a m c)]).run prog w=.ok (aE (.int .i64 x::((List.range 560).map f++[.slice a m c]))) w:=by kernel_rfl
@[go_sem] def ahk (x:Int) (e:Nat->aK) (a:dB) (m c:Nat) (w:aB):eG prog 47 #[(0,.int .i64 x),(1,aE (cB e)),(2,.slice a m c)] w=.ok (.value (aE (aW x e (.slice a m c)))) w:=fe (by
 unfold aW;rw[gi (cB e) 560 (en e)];exact aah x _ a m c w)
def c_.emptyD(t:TypeId)(size:Nat)(w:aB)(base:Nat)(a:base<=w.heap.size):c_ t size (w.alloc (.cells #[] t)).drew base (aR (w.heap.size) 0 0 0) []:=(c_.empty t size w base a).gr (Gr.refl _).drew
def YG(g:Sg)(pv:Value)(w:aB)(C:dM w pv g.path)(hl:g.path.length<=8):
  Calls prog 25 #[aE (aW g.leaf g.chains pv)] w fun e w'=>∃a c,e=.returned (aE (aW g.leaf g.chains (.slice a g.path.length c)))/\(∀V:aB,(∀b,w.heap.size<=b->b<w'.heap.size->V.heap[b]? =w'.heap[b]?)->dM V (.slice a g.path.length c) g.path)/\Gr w w':=by
 obtain⟨i,f,d⟩:=g;dsimp only at C hl|-
 obtain⟨n,P⟩:=ex w.heap.size;have T:=aA P;obtain⟨p,r,Q⟩:=C.shape;subst Q;obtain⟨j,M,S,t,z⟩:=gT P (aC (aW i f (.slice p d.length r)) 32) (aC (aW 0 (fun _=>aQ) ke) 47)
 have HP:=aA (C.gr S);have U:Hid (∀W:aB,HB W n (aW i f (.slice p d.length r)) 32->W.cell? (aD n 0)=some (.int .i64 i)/\W.rangeAt n 1 (cB f)/\W.cell? (aD n 561)=some (.slice p d.length r)):=fun W m=>
  ⟨(bH m 0).trans rfl,U_ (aP m 1 560 (by rw[d_];decide)) ((bJ m 1 560 (by rw[d_];decide)).trans (Cc _ _ _)),(bH m 561).trans (sE _ _ _)⟩
 have J:Hid (∀W,Gr j W->W.cell? (aD n 0)=some (.int .i64 i)/\W.rangeAt n 1 (cB f)/\W.cell? (aD n 561)=some (.slice p d.length r)):=fun W v=>U W ((v.block (aI t)).trans t);have K:Hid (∀W cs,Gr j W->(W.setCells (n+1) 0 cs).cell? (aD n 0)=some (.int .i64 i)/\(W.setCells (n+1) 0 cs).rangeAt n 1 (cB f)/\(W.setCells (n+1) 0 cs).cell? (aD n 561)=some (.slice p d.length r)):=fun W cs v=>U _ ((cD (by omega) _ _ _).trans ((v.block (aI t)).trans t))
 have D:Hid (∀W,Gr j W->hasRow W (aD (n+1) 0) 562=true/\gz W (aD (n+1) 0) 562=true/\n+1<W.heap.size/\HB W (n+1) (aW 0 (fun _=>aQ) ke) 47):=fun W v=>by
  have m:=(v.block (aI z)).trans z;exact⟨aP m 0 562 (by rw[d_];decide),bE m 0 562,aI m,m⟩
 obtain⟨B,L⟩:=ex j.heap.size;have G:Hid (n+1<B):=L▸aI z
 have N:=(Gr.refl j).drew;have h:=fun o=>((Gr.refl j).alloc o).drew;have X:Hid (c_ 22 16 (j.alloc (.cells #[] 22)).drew B (aR B 0 0 0) []):=by
  have:=c_.emptyD 22 16 j B (tN L.symm);rw[L]at this;exact this
 have I:=aA (HP.gr (h (.cells #[] 22)));have F:Hid ((d.map bC).length=d.length):=cL _;have Y:(prog.info? 29).map (·.size)=some (cB f).length:=by rw[en];kernel_rfl
 have Z:=underlying29;go_in;go_wp2_with fail;try simp only[P]
 try rw[M]
 replace M:=aA M
 go_region_held_law (fun u=>u.cell? (aD n 0)=some (.int .i64 i)/\u.rangeAt n 1 (cB f)/\u.cell? (aD n 561)=some (.slice p d.length r)) (first|exact J _ N|exact J _ (h _)|exact J _ y|exact K _ _ y) ((refine sP ZF rfl 10 rfl (.tmp 7) (.tmp 9) rfl B (aR B 0 0 0) [] (by simp[Act.eval]) X (.slice p d.length r) (d.map bC) (by simp[Act.eval]) I (AL d) (DQ d) d.length (by rw[F.out];simp) (by omega) (by have:=(h (.cells #[] 22)).size;omega) ?_;intro k l s x O _;have y:Gr j s:=(h _).grown O (fun q R=>by have:=(X.own R).1;omega);obtain⟨z0,z1,z2,z3⟩:=D.out s y;have a2:Sem.run prog (storeCells (aD (n+1) 0) (aW i f (.slice k d.length l))) s=.ok () (s.setCells (n+1) 0 (aW i f (.slice k d.length l))):=yR (by rw[d_];exact z0) (by rw[d_];exact z1) (mn _ _ _ _ _)))
 have HE:Hid (HB (s.setCells (n+1) 0 (aW i f (.slice k d.length l))) (n+1) (aW i f (.slice k d.length l)) 47):=bO z3 (by rw[d_,d_])
 have E:=aA ((S.trans y).setsOwn (b:=n+1) (by have:=T.out;omega) (aW i f (.slice k d.length l)) 0)
 have H:Hid (∀V:aB,(∀b,n<=b->b<(s.setCells (n+1) 0 (aW i f (.slice k d.length l))).heap.size->V.heap[b]? =(s.setCells (n+1) 0 (aW i f (.slice k d.length l))).heap[b]?)->dM V (.slice k d.length l) d):=fun V hV=>(x.block fun q R=>by
  have h1:=x.own R;have h4:=G.out;exact(hV q (by omega) (by rw[kB];exact h1.2)).trans (cD (by omega) _ _ _)).sl
 go_wp2_with fail;refine bI (dY rfl _ _ (n+1) _ _ _ _ rfl HE underlying47 rfl (AC _ _ _)) rfl ?_;exact⟨k,l,rfl,by rw[T.out];exact H,E⟩
end Go.Proofs.YtjfaogajmoffoaaGreatDoor
