/- Lemmas for VerifyStatus. -/
import Derived.Test.YtjfaogajmoffoaaGreatDoorQBD
set_option maxRecDepth 100000
set_option maxHeartbeats 16000000
set_option linter.all false
namespace Go.Proofs.YtjfaogajmoffoaaGreatDoor
open Go.RowKit Tryz
def ptr(b:Nat):Value:=bZ b
def r9(n:Int):Obj:=.cells #[.int .i64 n] 3
def Di(X:Nat):Value:=.func (.func 287) #[] #[ptr (X+3),ptr X,ptr (X+4),ptr (X+1),ptr (X+2)]
def Cp(X:Nat):Value:=.func (.func 288) #[] #[ptr (X+3),ptr (X+4)]
structure fV(w:aB)(X:Nat)(fr ti:Int)(F:Value)(bits count:Int):Prop where
 fr:w.heap[X]? =some (r9 fr)
 ti:w.heap[X+1]? =some (r9 ti)
 pass:w.heap[X+2]? =some (.cells #[F] 299)
 bits:w.heap[X+3]? =some (r9 bits)
 count:w.heap[X+4]? =some (r9 count)
def Kz(fr b:Int)(f:Fn)(cs a:Array Value)(w:aB):Calls prog 269 #[.int .i64 fr,.int .i64 b,.func f cs a] w fun e w'=>e=.returned (.tuple #[Di w.heap.size,Cp w.heap.size])/\fV w' w.heap.size fr b (.func f cs a) 0 0/\Gr w w'/\w'.heap.size=w.heap.size+5:=by
 go_in;go_wp2_with fail;go_ret2;refine⟨rfl,⟨?_,?_,?_,?_,?_⟩,?_,by simp⟩
 .exact((((((Gr.refl _).alloc _).alloc _).alloc _).alloc _).block (by simp<;>omega)).trans (aY _ _ _ (by simp))
 .exact(((((Gr.refl _).alloc _).alloc _).alloc _).block (by simp<;>omega)).trans (aY _ _ _ (by simp))
 .exact((((Gr.refl _).alloc _).alloc _).block (by simp<;>omega)).trans (aY _ _ _ (by simp))
 .exact(((Gr.refl _).alloc _).block (by simp<;>omega)).trans (aY _ _ _ (by simp))
 .exact((Gr.refl _).block (by simp<;>omega)).trans (aY _ _ _ (by simp))
 .exact(((((Gr.refl w).alloc _).alloc _).alloc _).alloc _).alloc _
def fV.gr{w w':aB}{X:Nat}{fr d:Int}{F:Value}{b a:Int}(h:fV w X fr d F b a)(c:Gr w w'):fV w' X fr d F b a:=
 ⟨(c.block (bY.1 h.fr).1).trans h.fr,(c.block (bY.1 h.ti).1).trans h.ti,(c.block (bY.1 h.pass).1).trans h.pass,(c.block (bY.1 h.bits).1).trans h.bits,(c.block (bY.1 h.count).1).trans h.count⟩
def gW{w:aB}{b:Nat}{n:Int}(h:w.heap[b]? =some (r9 n)):w.cell? (aD b 0)=some (.int .i64 n)/\w.frozen? (aD b 0)=false/\b<w.heap.size:=
 ⟨bH (cs:=[.int .i64 n]) h 0,by unfold r9 at h;simp[World.frozen?,h],(bY.1 h).1⟩
def Gc{w:aB}{b:Nat}{n:Int}(h:w.heap[b]? =some (r9 n)) (m:Int):(w.setCell (aD b 0) (.int .i64 m)).heap[b]? =some (r9 m):=fC w b 0 _ _ _ h
def fV.setBits{w:aB}{X:Nat}{fr c:Int}{F:Value}{b a:Int}(h:fV w X fr c F b a)(m:Int):fV (w.setCell (aD (X+3) 0) (.int .i64 m)) X fr c F m a:=
 ⟨(cG w (aD (X+3) 0) X _ (by show X≠X+3;omega)).trans h.fr,(cG w (aD (X+3) 0) (X+1) _ (by show X+1≠X+3;omega)).trans h.ti,(cG w (aD (X+3) 0) (X+2) _ (by show X+2≠X+3;omega)).trans h.pass,Gc h.bits m,(cG w (aD (X+3) 0) (X+4) _ (by show X+4≠X+3;omega)).trans h.count⟩
def fV.setCount{w:aB}{X:Nat}{fr c:Int}{F:Value}{a b:Int}(h:fV w X fr c F a b)(m:Int):fV (w.setCell (aD (X+4) 0) (.int .i64 m)) X fr c F a m:=
 ⟨(cG w (aD (X+4) 0) X _ (by show X≠X+4;omega)).trans h.fr,(cG w (aD (X+4) 0) (X+1) _ (by show X+1≠X+4;omega)).trans h.ti,(cG w (aD (X+4) 0) (X+2) _ (by show X+2≠X+4;omega)).trans h.pass,(cG w (aD (X+4) 0) (X+3) _ (by show X+3≠X+4;omega)).trans h.bits,Gc h.count m⟩
def Lz(X:Nat)(fr c:Int)(F:Value)(b a:Int)(w:aB)(h:fV w X fr c F b a):Calls prog 288 #[ptr (X+3),ptr (X+4)] w (RG w (.tuple #[.int .i64 b,.int .i64 a])):=by
 obtain⟨d,_,g⟩:=gW h.bits;obtain⟨f,_,i⟩:=gW h.count;unfold ptr;go_in;go_wp2_with fail
 go_quiet (fail)
 go_wp2_with fail;go_ret2;exact⟨rfl,(Gr.refl w).drewN _⟩
structure Br(ti:Nat)(X:Nat)(w0:aB)(id:FuncId)(T:Nat)(S:aB->List Nat->Prop):Prop where
 eg:∀args w,(callFunc id args).run prog w=.ok (.enter id args) w
 set:∀W l k u,k=X+3\/k=X+4->S W l->S (W.setCell (aD k 0) u) l
 gr:∀W W' l,S W l->Gr W W'->S W' l
 call:∀W l (g:Nat) fr b c,l.length<=999000->g<2^ti->S W l->fV W X fr ti (.func (.func id) #[] #[ptr T]) b c->Gr w0 W->Calls prog id #[.int .i64 (g:Int),ptr T] W fun e W'=>e=.returned (.tuple #[])/\S W' (l++[g])/\fV W' X fr ti (.func (.func id) #[] #[ptr T]) b c/\Gr w0 W'
def KQ(x y:Nat)(b:x<4294967296)(c:y<4294967296):bits .and .i64 (x:Int) (y:Int)=((x&&&y:Nat):Int):=by
 have a:x&&&y<=x:=Nat.and_le_left;simp only[bits,BitVec.ofInt_natCast,BitVec.toNat_and,BitVec.toNat_ofNat];rw[show(2:Nat)^IntKind.i64.bits=18446744073709551616 by decide,nF (by omega),nF (by omega),cV];omega
def Mc(a:List Bool)(k c:Nat)(h:a.length=c+k):bT a/2^c=bT (a.take k)/\bT a%2^c=bT (a.drop k):=by
 have d:(a.drop k).length=c:=by rw[eh];omega
 have f:bT a=bT (a.take k)*2^c+bT (a.drop k):=by
  have:=AU (a.take k) (a.drop k);rwa[lq,d]at this
 have b:bT (a.drop k)<2^c:=by have:=oP (a.drop k);rwa[d]at this
 have e:0<2^c:=y7 c;rw[f];constructor
 .rw[pm,zZ e,sk b,ms]
 .rw[pm,Nat.mul_add_mod,nF b]
def X_(A:Act)(W:aB)(e:Exit)(a:Act)(w:aB):Prop:=match e with| .normal=>a=A/\w=W|_=>False
def qr{P:Program}{c:Code}{Q':Exit->Act->aB->Prop}{a:Act}{w:aB}(A:Act)(W:aB)(h:c.wp P (X_ A W) a w)(f:Q' .normal A W):c.wp P Q' a w:=
 qM (fun e a w h=>by cases e<;>first|exact h.elim|(obtain⟨b,d⟩:=h;subst b;subst d;exact f)) h
def pM{P:Program}{fn:Func}{Q:Ending->aB->Prop}{t:Array Value}{w:aB}{d:List Deferred}(c:fn.results=#[])(b:d=[])(a:Q (.returned (.tuple #[])) w):bodyPost P fn Q .normal ⟨t,d⟩ w:=
 bodyPost_end (xT c _ _ _) b a
def ab7:∀(i:Fin 64) (j:Fin 256),bits .or .i64 ((i.val:Int)*256) (j.val:Int)=((i.val*256+j.val:Nat):Int):=by decide+kernel
def aaM:∀(i:Fin 256) (j:Fin 64),bits .or .i64 ((i.val:Int)*64) (j.val:Int)=((i.val*64+j.val:Nat):Int):=by decide+kernel
def Ns(X:Nat)(id:FuncId)(T:Nat)(S:aB->List Nat->Prop)(a:aB)(left:List Bool)(g:Nat)(l:List Nat)(e:Ending)(w':aB):Prop:=
 e=.returned (.tuple #[])/\fV w' X 8 6 (.func (.func id) #[] #[ptr T]) (bT (cJ 6 (left++eN 8 g)).2:Nat) ((cJ 6 (left++eN 8 g)).2.length:Nat)/\S w' (l++(cJ 6 (left++eN 8 g)).1)/\Gr a w'
def XB(X:Nat)(id:FuncId)(T:Nat)(S:aB->List Nat->Prop)(w0:aB)(hp:Br 6 X w0 id T S)(hx:w0.heap.size<=X)(left:List Bool)(hl:left.length<6)(g:Nat)(hg:g<256)(l:List Nat)(hll:l.length<=998000)(w:aB)
  (hR:fV w X 8 6 (.func (.func id) #[] #[ptr T]) (bT left:Nat) (left.length:Nat)) (hS:S w l) (hG:Gr w0 w):
  Calls prog 287 #[.int .i64 (g:Int),ptr (X+3),ptr X,ptr (X+4),ptr (X+1),ptr (X+2)] w (Ns X id T S w0 left g l):=by
 have hv1:bT (left++eN 8 g)=bT left*256+g:=by rw[AU,DM 8 g hg,p8]
 have hlen1:(left++eN 8 g).length=left.length+8:=by rw[bV,p8]
 have hbl:bT left<64:=dQ (oP left) (nR (aH rfl) (show left.length<=6 by omega));have hor:bits .or .i64 ((bT left:Int)*256) (g:Int)=((bT left*256+g:Nat):Int):=ab7 ⟨bT left,hbl⟩ ⟨g,hg⟩;have hwr:IntKind.i64.wrap ((bT left:Int)*256)=(bT left:Int)*256:=by rw[cV];omega
 have HR:=aA hR;have HS:=aA hS;have HG:=aA hG;have HP:=aA hp;have HV:=aA hv1;have HLN:=aA hlen1;obtain⟨a0,_,b0⟩:=gW hR.fr;obtain⟨a1,_,b1⟩:=gW hR.ti;obtain⟨a3,f3,b3⟩:=gW hR.bits;obtain⟨a4,f4,b4⟩:=gW hR.count;generalize bT left=B at*
 generalize left.length=C at*
 clear hv1 hlen1 hR hS hG hp;unfold ptr;go_in;go_wp2_with fail;have hw2:IntKind.i64.wrap ((C:Int)+8)=(C:Int)+8:=by rw[cV];omega
 apply qr (A:={ tmps:=#[.int .i64 (g:Int),.pointer (some ⟨X+3,0,none⟩),.pointer (some ⟨X,0,none⟩),.pointer (some ⟨X+4,0,none⟩),.pointer (some ⟨X+1,0,none⟩),.pointer (some ⟨X+2,0,none⟩),undef,.int .i64 (B:Int),.int .i64 8,.int .i64 ((B:Int)*256),.int .i64 (g:Int),.int .i64 ((B:Int)*256+(g:Int)),.int .i64 (C:Int),.int .i64 8,.int .i64 ((C:Int)+8),undef,undef,undef,undef,undef,undef,undef,undef,undef,undef,undef,undef,undef,undef,undef,undef],defers:=[] }) (W:=((w.setCell ⟨X+3,0,none⟩ (.int .i64 ((B:Int)*256+(g:Int)))).setCell ⟨X+4,0,none⟩ (.int .i64 ((C:Int)+8))).drew)
 case h=>
  go_region_law (fail);all_goals exact⟨rfl,rfl⟩
 have R1:=((HR.setBits ((B:Int)*256+(g:Int))).setCount ((C:Int)+8)).gr (Gr.refl _).drew;have S1:=aA (HP.gr _ _ _ (HP.set _ _ (X+4) (.int .i64 ((C:Int)+8)) (.inr rfl) (HP.set _ _ (X+3) (.int .i64 ((B:Int)*256+(g:Int))) (.inl rfl) HS)) (Gr.refl _).drew);have G1:=aA (((HG.setOwn (b:=X+3) (o:=0) (by omega) (.int .i64 ((B:Int)*256+(g:Int)))).setOwn (b:=X+4) (o:=0) (by omega) (.int .i64 ((C:Int)+8))).drew);generalize((w.setCell ⟨X+3,0,none⟩ (.int .i64 ((B:Int)*256+(g:Int)))).setCell ⟨X+4,0,none⟩ (.int .i64 ((C:Int)+8))).drew=W1 at*
 have eB:(B:Int)*256+(g:Int)=((bT (left++eN 8 g):Nat):Int):=by rw[HV.out];omega
 have eC:(C:Int)+8=(((left++eN 8 g).length:Nat):Int):=by rw[HLN.out];omega
 have hl13:(left++eN 8 g).length<=13:=by rw[HLN.out];omega
 rw[eB,eC]at R1;have HR1:=aA R1;obtain⟨cur0,hcur0⟩:∃c,left++eN 8 g=c:=⟨_,rfl⟩;rw[hcur0]at HR1 hl13;have HCUR:=aA hcur0;clear R1 eB eC hor hwr a0 b0 a1 b1 a3 f3 b3 a4 f4 b4 HR HS HG hbl hcur0 HV HLN;go_wp2_with fail
 go_loopw [] (fun wr=>∃cur pre,cur.length+pre.length<=13/\Hid (cJ 6 cur0=(pre++(cJ 6 cur).1,(cJ 6 cur).2))/\Hid (fV wr X 8 6 (.func (.func id) #[] #[ptr T]) (bT cur:Nat) (cur.length:Nat))/\Hid (S wr (l++pre))/\Hid (Gr w0 wr)) (fun wr=>(intOf ((wr.cell? ⟨X+4,0,none⟩).getD undef)).toNat)
 .exact⟨cur0,[],by simpa using hl13,by show _=_;simp,HR1,by show _;rw[je];exact S1,G1⟩
 .
  obtain⟨cur,pre,hlp,hg1,hR,hS,hG⟩:=hrel;have hlen:cur.length<=13:=by omega
  have HLP:=aA hlp;clear hlp;obtain⟨a0,-,b0⟩:=gW hR.out.fr;obtain⟨a1,-,b1⟩:=gW hR.out.ti;obtain⟨a3,f3,b3⟩:=gW hR.out.bits;obtain⟨a4,f4,b4⟩:=gW hR.out.count;by_cases hlt:cur.length<6
  .have e:=po hlt
   have hlt1:¬(6:Int)<=(cur.length:Int):=by omega
   have HE:=aA e;clear e;go_wp2_with fail;show bodyPost prog Tryz.f287 (Ns X id T S w0 left g l) .normal _ _;refine pM (fn:=Tryz.f287) rfl rfl ?_;refine⟨rfl,?_,?_,hG⟩
   .rw[HCUR.out,hg1.out,HE.out];exact hR
   .rw[HCUR.out,hg1.out,HE.out];show S wr (l++(pre++[]));rw[je];exact hS
  .obtain⟨c,hc⟩:∃c,cur.length=c+6:=⟨cur.length-6,by omega⟩
   obtain⟨hs1,hs2⟩:=Mc cur 6 c hc;have hc7:c<=13-6:=by omega
   have hstep:=vn (k:=6) (aH rfl) (l:=cur) (by omega);have HST:Hid (cJ 6 cur0=((pre++[bT (cur.take 6)])++(cJ 6 (cur.drop 6)).1,(cJ 6 (cur.drop 6)).2)):=by
    show _=_;rw[hg1.out,hstep];simp
   have hdl:(cur.drop 6).length=c:=by rw[eh];omega
   have HDL:=aA hdl;have hq:bT (cur.take 6)<2^6:=by have:=oP (cur.take 6);rwa[dP,tS (by omega)]at this
   have hb13:bT cur<8192:=dQ (oP cur) (eu (nR (aH rfl) hlen) (aH rfl));have hc2:2^c<=128:=eu (nR (aH rfl) (show c<=7 by omega)) (aH rfl);have hc1:1<=2^c:=y7 c;have hand0:bits .and .i64 ((bT cur:Nat):Int) ((2^c-1:Nat):Int)=((bT (cur.drop 6):Nat):Int):=by
    rw[KQ _ _ (by omega) (by omega),F',hs2]
   rw[hc]at a4;have HA4:=aA a4;have hgc:(6:Int)<=(c:Int)+6:=by omega
   have HC:=aA hc;generalize hQ:bT (cur.take 6)=q at*
   generalize hD:cur.drop 6=rest at*
   have hR2:=hR.setCount (c:Int);have hS2:=aA (HP.set _ _ (X+4) (.int .i64 (c:Int)) (.inr rfl) hS);have hG2:=aA (hG.setOwn (b:=X+4) (o:=0) (by omega) (.int .i64 (c:Int)));clear hstep hdl hs2 hg1 hS hG hQ hD hR hlt hc;generalize bT cur=b at*
   go_wp2_with fail;generalize wr.setCell ⟨X+4,0,none⟩ (.int .i64 (c:Int))=W2 at*
   clear a0 a1 a3 a4 f3 f4 b0 b1 b3 b4;obtain⟨a3,f3,b3⟩:=gW hR2.bits;obtain⟨a4,f4,b4⟩:=gW hR2.count;have a2:W2.cell? ⟨X+2,0,none⟩=some (.func (.func id) #[] #[ptr T]):=bH (cs:=[.func (.func id) #[] #[ptr T]]) hR2.pass 0;have b2:=(bY.1 hR2.pass).1;have hdiv:(b:Int)/2^c=(q:Int):=by rw[<-hs1];simp
   have hR3:=aA hR2;clear hR2;refine jd 4 (fun u=>∃p:LD,u=lw W2 p) (by kernel_rfl) (by kernel_rfl) (oO W2) ?_;simp only[gR,fy,ib,gd];repeat (go_big_quiet_step (fail))
   refine cX ?_;rintro _ ⟨p,rfl⟩;have gU:=(j' W2 p).1;have HRU:=aA (hR3.gr gU);have HSU:=aA (HP.gr _ _ _ hS2 gU);have HGU:=aA (hG2.trans gU);have eg:=HP.eg;clear hR3 hS2 hG2 gU a2 a3 a4 b2 b3 b4 f3 f4 hdiv;generalize lw W2 p=U at*
   go_wp2_with fail;refine(HP.call U (l++pre) q 8 b c (by have:=HLP.out;rw[bV];omega) hq HSU HRU HGU).mono ?_;rintro e W3 ⟨rfl,hs3,hr3,hg3⟩;have HS3:=aA hs3;have HG3:=aA hg3;obtain⟨a3,f3,b3⟩:=gW hr3.bits;obtain⟨a4,f4,b4⟩:=gW hr3.count;have HR3:=aA hr3;clear hs3 hr3 hg3 HSU HRU HGU eg;have e2:((2^c-1:Nat):Int)=(2:Int)^c-1:=by rw[Int.natCast_sub hc1];simp
   have e3:((2^c:Nat):Int)=(2:Int)^c:=by simp
   have hw1:IntKind.i64.wrap ((2:Int)^c)=(2:Int)^c:=by rw[<-e3,cV];omega
   have hw3:IntKind.i64.wrap ((2:Int)^c-1)=(2:Int)^c-1:=by rw[<-e2,cV];omega
   rw[e2]at hand0;clear e2 e3;go_wp2_with fail;refine jd 5 (fun u=>∃p:LD,u=lw W3 p) (by kernel_rfl) (by kernel_rfl) (oO W3) ?_;simp only[gR,fy,ib,gd];repeat (go_big_quiet_step (fail))
   refine cX ?_;rintro _ ⟨p2,rfl⟩;have gU:=(j' W3 p2).1;have hrU:=HR3.gr gU;obtain⟨d3,k3,e3⟩:=gW hrU.bits;have HSU:=aA (HP.set _ _ (X+3) (.int .i64 ((bT rest:Nat):Int)) (.inl rfl) (HP.gr _ _ _ HS3 gU));have hrS:=hrU.setBits ((bT rest:Nat):Int);have HGU:=aA ((HG3.trans gU).setOwn (b:=X+3) (o:=0) (by omega) (.int .i64 ((bT rest:Nat):Int)));have HM:=aA (gW hrS.count).1;have HRU:=aA hrS;clear a3 a4 f3 f4 b3 b4 HR3 HS3 HG3 hand0 hw1 hw3 gU hrU hrS;generalize lw W3 p2=U2 at*
   go_wp2_with fail;go_roundw
   .exact⟨rest,pre++[q],by have:=HLP.out;rw[HC.out]at this;rw[HDL.out,bV,jN];omega,HST,by show fV _ _ _ _ _ _ _;rw[HDL.out];exact HRU,by show S _ _;rw[<-fl];exact HSU,HGU⟩
   .rw[HM.out,HA4.out];simp[intOf];omega
def JJ(X:Nat)(id:FuncId)(T:Nat)(S:aB->List Nat->Prop)(a:aB)(left:List Bool)(g:Nat)(l:List Nat)(e:Ending)(w':aB):Prop:=
 e=.returned (.tuple #[])/\fV w' X 6 8 (.func (.func id) #[] #[ptr T]) (bT (cJ 8 (left++eN 6 g)).2:Nat) ((cJ 8 (left++eN 6 g)).2.length:Nat)/\S w' (l++(cJ 8 (left++eN 6 g)).1)/\Gr a w'
def Y6(X:Nat)(id:FuncId)(T:Nat)(S:aB->List Nat->Prop)(w0:aB)(hp:Br 8 X w0 id T S)(hx:w0.heap.size<=X)(left:List Bool)(hl:left.length<8)(g:Nat)(hg:g<64)(l:List Nat)(hll:l.length<=998000)(w:aB)
  (hR:fV w X 6 8 (.func (.func id) #[] #[ptr T]) (bT left:Nat) (left.length:Nat)) (hS:S w l) (hG:Gr w0 w):
  Calls prog 287 #[.int .i64 (g:Int),ptr (X+3),ptr X,ptr (X+4),ptr (X+1),ptr (X+2)] w (JJ X id T S w0 left g l):=by
 have hv1:bT (left++eN 6 g)=bT left*64+g:=by rw[AU,DM 6 g hg,p8]
 have hlen1:(left++eN 6 g).length=left.length+6:=by rw[bV,p8]
 have hbl:bT left<256:=dQ (oP left) (nR (aH rfl) (show left.length<=8 by omega));have hor:bits .or .i64 ((bT left:Int)*64) (g:Int)=((bT left*64+g:Nat):Int):=aaM ⟨bT left,hbl⟩ ⟨g,hg⟩;have hwr:IntKind.i64.wrap ((bT left:Int)*64)=(bT left:Int)*64:=by rw[cV];omega
 have HR:=aA hR;have HS:=aA hS;have HG:=aA hG;have HP:=aA hp;have HV:=aA hv1;have HLN:=aA hlen1;obtain⟨a0,_,b0⟩:=gW hR.fr;obtain⟨a1,_,b1⟩:=gW hR.ti;obtain⟨a3,f3,b3⟩:=gW hR.bits;obtain⟨a4,f4,b4⟩:=gW hR.count;generalize bT left=B at*
 generalize left.length=C at*
 clear hv1 hlen1 hR hS hG hp;unfold ptr;go_in;go_wp2_with fail;have hw2:IntKind.i64.wrap ((C:Int)+6)=(C:Int)+6:=by rw[cV];omega
 apply qr (A:={ tmps:=#[.int .i64 (g:Int),.pointer (some ⟨X+3,0,none⟩),.pointer (some ⟨X,0,none⟩),.pointer (some ⟨X+4,0,none⟩),.pointer (some ⟨X+1,0,none⟩),.pointer (some ⟨X+2,0,none⟩),undef,.int .i64 (B:Int),.int .i64 6,.int .i64 ((B:Int)*64),.int .i64 (g:Int),.int .i64 ((B:Int)*64+(g:Int)),.int .i64 (C:Int),.int .i64 6,.int .i64 ((C:Int)+6),undef,undef,undef,undef,undef,undef,undef,undef,undef,undef,undef,undef,undef,undef,undef,undef],defers:=[] }) (W:=((w.setCell ⟨X+3,0,none⟩ (.int .i64 ((B:Int)*64+(g:Int)))).setCell ⟨X+4,0,none⟩ (.int .i64 ((C:Int)+6))).drew)
 case h=>
  go_region_law (fail);all_goals exact⟨rfl,rfl⟩
 have R1:=((HR.setBits ((B:Int)*64+(g:Int))).setCount ((C:Int)+6)).gr (Gr.refl _).drew;have S1:=aA (HP.gr _ _ _ (HP.set _ _ (X+4) (.int .i64 ((C:Int)+6)) (.inr rfl) (HP.set _ _ (X+3) (.int .i64 ((B:Int)*64+(g:Int))) (.inl rfl) HS)) (Gr.refl _).drew);have G1:=aA (((HG.setOwn (b:=X+3) (o:=0) (by omega) (.int .i64 ((B:Int)*64+(g:Int)))).setOwn (b:=X+4) (o:=0) (by omega) (.int .i64 ((C:Int)+6))).drew);generalize((w.setCell ⟨X+3,0,none⟩ (.int .i64 ((B:Int)*64+(g:Int)))).setCell ⟨X+4,0,none⟩ (.int .i64 ((C:Int)+6))).drew=W1 at*
 have eB:(B:Int)*64+(g:Int)=((bT (left++eN 6 g):Nat):Int):=by rw[HV.out];omega
 have eC:(C:Int)+6=(((left++eN 6 g).length:Nat):Int):=by rw[HLN.out];omega
 have hl13:(left++eN 6 g).length<=13:=by rw[HLN.out];omega
 rw[eB,eC]at R1;have HR1:=aA R1;obtain⟨cur0,hcur0⟩:∃c,left++eN 6 g=c:=⟨_,rfl⟩;rw[hcur0]at HR1 hl13;have HCUR:=aA hcur0;clear R1 eB eC hor hwr a0 b0 a1 b1 a3 f3 b3 a4 f4 b4 HR HS HG hbl hcur0 HV HLN;go_wp2_with fail
 go_loopw [] (fun wr=>∃cur pre,cur.length+pre.length<=13/\Hid (cJ 8 cur0=(pre++(cJ 8 cur).1,(cJ 8 cur).2))/\Hid (fV wr X 6 8 (.func (.func id) #[] #[ptr T]) (bT cur:Nat) (cur.length:Nat))/\Hid (S wr (l++pre))/\Hid (Gr w0 wr)) (fun wr=>(intOf ((wr.cell? ⟨X+4,0,none⟩).getD undef)).toNat)
 .exact⟨cur0,[],by simpa using hl13,by show _=_;simp,HR1,by show _;rw[je];exact S1,G1⟩
 .
  obtain⟨cur,pre,hlp,hg1,hR,hS,hG⟩:=hrel;have hlen:cur.length<=13:=by omega
  have HLP:=aA hlp;clear hlp;obtain⟨a0,-,b0⟩:=gW hR.out.fr;obtain⟨a1,-,b1⟩:=gW hR.out.ti;obtain⟨a3,f3,b3⟩:=gW hR.out.bits;obtain⟨a4,f4,b4⟩:=gW hR.out.count;by_cases hlt:cur.length<8
  .have e:=po hlt
   have hlt1:¬(8:Int)<=(cur.length:Int):=by omega
   have HE:=aA e;clear e;go_wp2_with fail;show bodyPost prog Tryz.f287 (JJ X id T S w0 left g l) .normal _ _;refine pM (fn:=Tryz.f287) rfl rfl ?_;refine⟨rfl,?_,?_,hG⟩
   .rw[HCUR.out,hg1.out,HE.out];exact hR
   .rw[HCUR.out,hg1.out,HE.out];show S wr (l++(pre++[]));rw[je];exact hS
  .obtain⟨c,hc⟩:∃c,cur.length=c+8:=⟨cur.length-8,by omega⟩
   obtain⟨hs1,hs2⟩:=Mc cur 8 c hc;have hc7:c<=13-8:=by omega
   have hstep:=vn (k:=8) (aH rfl) (l:=cur) (by omega);have HST:Hid (cJ 8 cur0=((pre++[bT (cur.take 8)])++(cJ 8 (cur.drop 8)).1,(cJ 8 (cur.drop 8)).2)):=by
    show _=_;rw[hg1.out,hstep];simp
   have hdl:(cur.drop 8).length=c:=by rw[eh];omega
   have HDL:=aA hdl;have hq:bT (cur.take 8)<2^8:=by have:=oP (cur.take 8);rwa[dP,tS (by omega)]at this
   have hb13:bT cur<8192:=dQ (oP cur) (eu (nR (aH rfl) hlen) (aH rfl));have hc2:2^c<=128:=eu (nR (aH rfl) (show c<=7 by omega)) (aH rfl);have hc1:1<=2^c:=y7 c;have hand0:bits .and .i64 ((bT cur:Nat):Int) ((2^c-1:Nat):Int)=((bT (cur.drop 8):Nat):Int):=by
    rw[KQ _ _ (by omega) (by omega),F',hs2]
   rw[hc]at a4;have HA4:=aA a4;have hgc:(8:Int)<=(c:Int)+8:=by omega
   have HC:=aA hc;generalize hQ:bT (cur.take 8)=q at*
   generalize hD:cur.drop 8=rest at*
   have hR2:=hR.setCount (c:Int);have hS2:=aA (HP.set _ _ (X+4) (.int .i64 (c:Int)) (.inr rfl) hS);have hG2:=aA (hG.setOwn (b:=X+4) (o:=0) (by omega) (.int .i64 (c:Int)));clear hstep hdl hs2 hg1 hS hG hQ hD hR hlt hc;generalize bT cur=b at*
   go_wp2_with fail;generalize wr.setCell ⟨X+4,0,none⟩ (.int .i64 (c:Int))=W2 at*
   clear a0 a1 a3 a4 f3 f4 b0 b1 b3 b4;obtain⟨a3,f3,b3⟩:=gW hR2.bits;obtain⟨a4,f4,b4⟩:=gW hR2.count;have a2:W2.cell? ⟨X+2,0,none⟩=some (.func (.func id) #[] #[ptr T]):=bH (cs:=[.func (.func id) #[] #[ptr T]]) hR2.pass 0;have b2:=(bY.1 hR2.pass).1;have hdiv:(b:Int)/2^c=(q:Int):=by rw[<-hs1];simp
   have hR3:=aA hR2;clear hR2;refine jd 4 (fun u=>∃p:LD,u=lw W2 p) (by kernel_rfl) (by kernel_rfl) (oO W2) ?_;simp only[gR,fy,ib,gd];repeat (go_big_quiet_step (fail))
   refine cX ?_;rintro _ ⟨p,rfl⟩;have gU:=(j' W2 p).1;have HRU:=aA (hR3.gr gU);have HSU:=aA (HP.gr _ _ _ hS2 gU);have HGU:=aA (hG2.trans gU);have eg:=HP.eg;clear hR3 hS2 hG2 gU a2 a3 a4 b2 b3 b4 f3 f4 hdiv;generalize lw W2 p=U at*
   go_wp2_with fail;refine(HP.call U (l++pre) q 6 b c (by have:=HLP.out;rw[bV];omega) hq HSU HRU HGU).mono ?_;rintro e W3 ⟨rfl,hs3,hr3,hg3⟩;have HS3:=aA hs3;have HG3:=aA hg3;obtain⟨a3,f3,b3⟩:=gW hr3.bits;obtain⟨a4,f4,b4⟩:=gW hr3.count;have HR3:=aA hr3;clear hs3 hr3 hg3 HSU HRU HGU eg;have e2:((2^c-1:Nat):Int)=(2:Int)^c-1:=by rw[Int.natCast_sub hc1];simp
   have e3:((2^c:Nat):Int)=(2:Int)^c:=by simp
   have hw1:IntKind.i64.wrap ((2:Int)^c)=(2:Int)^c:=by rw[<-e3,cV];omega
   have hw3:IntKind.i64.wrap ((2:Int)^c-1)=(2:Int)^c-1:=by rw[<-e2,cV];omega
   rw[e2]at hand0;clear e2 e3;go_wp2_with fail;refine jd 5 (fun u=>∃p:LD,u=lw W3 p) (by kernel_rfl) (by kernel_rfl) (oO W3) ?_;simp only[gR,fy,ib,gd];repeat (go_big_quiet_step (fail))
   refine cX ?_;rintro _ ⟨p2,rfl⟩;have gU:=(j' W3 p2).1;have hrU:=HR3.gr gU;obtain⟨d3,k3,e3⟩:=gW hrU.bits;have HSU:=aA (HP.set _ _ (X+3) (.int .i64 ((bT rest:Nat):Int)) (.inl rfl) (HP.gr _ _ _ HS3 gU));have hrS:=hrU.setBits ((bT rest:Nat):Int);have HGU:=aA ((HG3.trans gU).setOwn (b:=X+3) (o:=0) (by omega) (.int .i64 ((bT rest:Nat):Int)));have HM:=aA (gW hrS.count).1;have HRU:=aA hrS;clear a3 a4 f3 f4 b3 b4 HR3 HS3 HG3 hand0 hw1 hw3 gU hrU hrS;generalize lw W3 p2=U2 at*
   go_wp2_with fail;go_roundw
   .exact⟨rest,pre++[q],by have:=HLP.out;rw[HC.out]at this;rw[HDL.out,bV,jN];omega,HST,by show fV _ _ _ _ _ _ _;rw[HDL.out];exact HRU,by show S _ _;rw[<-fl];exact HSU,HGU⟩
   .rw[HM.out,HA4.out];simp[intOf];omega
def iD(w:aB):Prop:=∀i,i<64->w.cell? (aD 3 i)=some (cU (cP i))
def iD.lt{w:aB}(h:iD w):3<w.heap.size:=ka w _ (h 0 (aH rfl))
def iD.gr{w w':aB}(h:iD w)(a:Gr w w'):iD w':=fun i hi=>(a.cell h.lt).trans (h i hi)
def aZ.ne{w:aB}{base:Nat}{v:Value}{l:aM}(h:aZ w base v l){k:Nat}{cs:Array Value}{t:TypeId}{fr:Nat×Nat}(f:w.heap[k]? =some (.cells cs t fr)) (i:t≠5):v.ownBlock≠some k:=by
 obtain⟨_,d⟩:=h;rcases d with⟨rfl,_⟩|⟨g,b,c,rfl,_,a,_⟩
 .simp[Value.ownBlock]
 .intro e
  have e':g=k:=by simpa[Value.ownBlock]using e
  rw[e',f]at a;simp only[qE,Obj.cells.injEq]at a;exact i a.2.1
def aZ.set{w:aB}{base:Nat}{v:Value}{l:aM}(h:aZ w base v l)(k o:Nat)(u:Value)(a:v.ownBlock≠some k):aZ (w.setCell (aD k o) u) base v l:=
 mM h (lG w k o u) (.inr a)
def jO(X T base:Nat)(F:Nat->UInt8)(W:aB)(a:List Nat):Prop:=∃v,W.heap[T]? =some (.cells #[v] 94)/\aZ W base v (a.map F)/\v.ownBlock≠some (X+3)/\v.ownBlock≠some (X+4)
def jO.set{X T base:Nat}{F:Nat->UInt8}(f:T<X)(W:aB)(l:List Nat)(k:Nat)(u:Value)(e:k=X+3\/k=X+4)(h:jO X T base F W l):jO X T base F (W.setCell (aD k 0) u) l:=by
 obtain⟨v,c,d,a,b⟩:=h;exact⟨v,(cG W (aD k 0) T u (by show T≠k;omega)).trans c,d.set k 0 u (by rcases e with rfl|rfl;exact a;exact b),a,b⟩
def jO.gr{X T base:Nat}{F:Nat->UInt8}(W a:aB)(l:List Nat)(h:jO X T base F W l)(c:Gr W a):jO X T base F a l:=by
 obtain⟨v,b,d,e,f⟩:=h;exact⟨v,(c.block (bY.1 b).1).trans b,d.gr c,e,f⟩
def fV.grown{w w':aB}{X:Nat}{fr f:Int}{F:Value}{b a:Int}{row:Option Nat}(h:fV w X fr f F b a)(c:w.grownBy w' row)(d:∀k,row=some k->k<X\/X+4<k):fV w' X fr f F b a:=
 ⟨eH c h.fr (fun e=>by have:=d _ e;omega),eH c h.ti (fun e=>by have:=d _ e;omega),eH c h.pass (fun e=>by have:=d _ e;omega),eH c h.bits (fun e=>by have:=d _ e;omega),eH c h.count (fun e=>by have:=d _ e;omega)⟩
def fV.away{w:aB}{X:Nat}{fr m:Int}{F:Value}{b a:Int}(h:fV w X fr m F b a){base:Nat}{v:Value}{l:aM}(c:aZ w base v l):∀k,v.ownBlock=some k->k<X\/X+4<k:=fun k j=>by
 have d:=c.ne h.fr (aH rfl);have e:=c.ne h.ti (aH rfl);have f:=c.ne h.pass (aH rfl);have g:=c.ne h.bits (aH rfl);have i:=c.ne h.count (aH rfl);rw[j]at d e f g i;simp only[ne_eq,qE]at d e f g i;omega
def Tu(X T base:Nat)(r:aB)(P:T<X)(y:r.heap.size<=base)(Q:base<=T)(t:iD r)(W:aB)(l:List Nat)(g:Nat)(fr b c:Int)(Y:l.length<=999000)(V:g<64)(O:jO X T base cP W l)(w:fV W X fr 6 (.func (.func 270) #[] #[ptr T]) b c)(u:Gr r W):
  Calls prog 270 #[.int .i64 (g:Int),ptr T] W fun e j=>e=.returned (.tuple #[])/\jO X T base cP j (l++[g])/\fV j X fr 6 (.func (.func 270) #[] #[ptr T]) b c/\Gr r j:=by
 obtain⟨v,m,s,M,N⟩:=O;have hc:W.cell? (aD T 0)=some v:=bH (cs:=[v]) m 0;have Z:=(bY.1 m).1;have hal:=t.gr u g V;have f:(g:Int)<64:=by omega
 unfold cU at hal;unfold ptr;go_in;go_wp2_with fail;have B:v.ownBlock≠some T:=s.ne m (aH rfl);have F:=aA m;have D:=aA s;have I:=aA w;have H:=aA u;have J:Hid (∀k,v.ownBlock=some k->k<X\/X+4<k):=w.away s;obtain⟨d,z⟩:=ex (cP g);rw[z]at hal;have G:=aA z;apply rH (R:=fun x n j=>Hid (j.heap[T]? =some (.cells #[.slice x (l.length+1) n] 94))/\Hid (aZ j base (.slice x (l.length+1) n) (l.map cP++[d]))/\Hid (fV j X fr 6 (.func (.func 270) #[] #[ptr T]) b c)/\Hid (Gr r j))
 case h=>
  go_region_law (first|(refine wa rfl 8 rfl (.tmp 3) (.tmp 7) rfl base v (l.map cP) (by simp[Act.eval]) (D.gr ((Gr.refl W).drew.alloc _)) (aR (W.heap.size) 0 1 1) [d] (by simp[Act.eval]) (aZ.made (l:=[d]) (cM W.drew _) (by omega) (by simp)) (l.length+1) (by simp) (by omega) (by simp;omega) ?_;intro K L C i f;have HX:=km i f;have a:=eH f ((((Gr.refl W).drew.alloc (.cells #[.int .u8 (d.toNat:Int)] 5)).block Z).trans F) B;have S:C.cell? (aD T 0)=some v:=bH (cs:=[v]) a 0;have U:=ee (cs:=[v]) a 0;have a2:=(bY.1 a).1));all_goals exact⟨K,L,⟨fC C T 0 _ _ _ a,i.set T 0 _ (i.ne a (aH rfl)),((I.gr ((Gr.refl W).drew.alloc _)).grown f J).grown (lG C T 0 _) (fun k hk=>by cases hk;exact .inl P),((H.trans ((Gr.refl W).drew.alloc _)).grown f (fun k hk=>eu y (fA D k hk).1)).setOwn (b:=T) (o:=0) (by omega) _⟩,rfl⟩
 rintro x1 n1 W1 ⟨a,i,p,f⟩;go_wp2_with fail
 go_end0
 have E:=p.away i;have e:(l++[g]).map cP=l.map cP++[d]:=by rw[gD,<-G.out];rfl
 refine⟨rfl,⟨.slice x1 (l.length+1) n1,a,by rw[e];exact i,fun q=>?_,fun q=>?_⟩,p,f⟩
 .have:=E _ q;omega
 .have:=E _ q;omega
def Mw(l:aM)(k:Nat)(h:k<l.length):gk (l.take (k+1))=gk (l.take k)++eN 8 l[k].toNat:=by
 rw[eF h];unfold gk;rw[pG];simp
def XK(l:aM)(k:Nat)(h:k<l.length):cJ 6 (gk (l.take (k+1)))=((cJ 6 (gk (l.take k))).1++(cJ 6 ((cJ 6 (gk (l.take k))).2++eN 8 l[k].toNat)).1,(cJ 6 ((cJ 6 (gk (l.take k))).2++eN 8 l[k].toNat)).2):=by
 rw[Mw l k h];exact yu (aH rfl) _ _ _ (aU _)
def Ad(T base:Nat)(W:aB)(t:aM):Prop:=∃v,W.heap[T]? =some (.cells #[v] 94)/\aZ W base v t
def aZ.shape{w:aB}{base:Nat}{v:Value}{l:aM}(h:aZ w base v l):∃a c,v=.slice a l.length c:=by
 obtain⟨_,f⟩:=h;rcases f with⟨rfl,e⟩|⟨g,b,d,rfl,_⟩
 .exact⟨none,0,by rw[e]⟩
 .exact⟨_,_,rfl⟩
def tj:Value->Nat
 | .slice _ n _=>n
 |_=>0
def pp(w:aB){c:Array Oper}{rest:List Oper}{o:Oper}{a:Act}{Q:Exit->Act->aB->Prop}(f:o.guard=none)(s x:Operand)
  (p:o.op=.call { callee:=.builtin .append,args:=#[s,x],argTypes:=#[94,94] }) (base:Nat) (v:Value) (xs:aM) (hs:a.eval s=v) (hown:aZ w base v xs)
  (sv:Value) (ys:aM) (hx:a.eval x=sv) (hsl:aZ w base sv ys) (n:Nat) (hn:xs.length+ys.length=n) (h63:n<=1000000) (hbase:base<=w.heap.size)
  (h:∀d e w',aZ w' base (.slice d n e) (xs++ys)->w.grownBy w' v.ownBlock->wpList prog c Q rest (a.put o.dst (.slice d n e)) w'):
  wpList prog c Q (o::rest) a w:=by
 subst hn;obtain⟨i,z,g,j,k,l,m⟩:=sr;refine tU w f s x 94 p base 5 i z 1 1 underlying94 g j k l m (aH rfl) v xs.length (xs.map cU) hs hown sv (iV ys) hx hsl.sl (uP _) (xx _) (by rw[kK];exact h63) (aH rfl) hbase ?_;intro d e w' b hg _;rw[uT,kK]at b;rw[kK];refine h d e w' ?_ hg;unfold aZ;rw[gD,bV];exact b
def Ob(X T base:Nat)(a:aB)(m:T<X)(e:a.heap.size<=base)(f:base<=T)(d:iD a):Br 6 X a 270 T (jO X T base cP):=
 ⟨lV func270 (by kernel_rfl) rfl,fun W l k u r h=>jO.set m W l k u r h,fun W n l h i=>jO.gr W n l h i,fun W l g fr b c j i q p o=>Tu X T base a m e f d W l g fr b c j i q p o⟩
def Oc(g o c:Nat)(l:aM)(w:aB)(hA:iD w)(hl:l.length<=1000)(h:cS w g o l):Calls prog 235 #[aR g o l.length c] w (RG w (.string (bs (qW l)))):=by
 obtain⟨N,hN,ba⟩:∃N:Nat,((l.length:Int)+2)/3*4=(N:Int)/\N<=10000:=⟨(l.length+2)/3*4,by omega,by omega⟩;have b4:∀w,(Instr.makeSlice 94 (.int .i64 0) (.int .i64 (((l.length:Int)+2)/3*4))).run prog w=.ok (aR (w.heap.size) 0 0 N) (w.alloc (.cells (madeCells #[.int .u8 0] N) 5)):=by
  rw[hN];exact xp N (by omega)
 have a8:=aA ((aZ.fresh w w.heap.size N w.heap.size rfl (aU _) (by omega)).gr ((Gr.refl _).alloc (.cells #[aR (w.heap.size) 0 0 N] 94)));have U:=aA (lh w (.cells (madeCells #[.int .u8 0] N) 5) (.cells #[aR (w.heap.size) 0 0 N] 94));have a6:=aA (((Gr.refl w).alloc (.cells (madeCells #[.int .u8 0] N) 5)).alloc (.cells #[aR (w.heap.size) 0 0 N] 94));have ac:=aA (show ((w.alloc (.cells (madeCells #[.int .u8 0] N) 5)).alloc (.cells #[aR (w.heap.size) 0 0 N] 94)).heap.size=w.heap.size+2 by simp)
 have HB:=aA h;have HA:=aA hA;clear h hA hN;go_in;go_wp2_with fail;generalize(w.alloc (.cells (madeCells #[.int .u8 0] N) 5)).alloc (.cells #[aR (w.heap.size) 0 0 N] 94)=U0 at*
 refine(Kz 8 6 (.func 270) #[] #[ptr (w.heap.size+1)] U0).mono ?_;rintro e U1 ⟨rfl,hr,hg,b5⟩;generalize U0.heap.size=X at*
 have hX:=ac.out;have a5:=aA (a6.trans hg);have a9:=aA hr;have aa:Hid (jO X (w.heap.size+1) w.heap.size cP U1 []):=⟨_,(hg.block (bY.1 U).1).trans U,a8.gr hg,by simp[Value.ownBlock];omega,by simp[Value.ownBlock];omega⟩;have HP:=aA (Ob X (w.heap.size+1) w.heap.size w (by omega) (aU _) (by omega) HA);have b8:w.heap.size<=X:=by omega
 have a4:Hid (∀k (h:k<l.length),l[k]? =some l[k]):=fun k h=>cO h
 have a7:=aA (XK l);have t:Hid (∀k,k<=l.length->6*(cJ 6 (gk (l.take k))).1.length+(cJ 6 (gk (l.take k))).2.length=8*k/\(cJ 6 (gk (l.take k))).2.length<6):=fun k M=>⟨by rw[xw (aH rfl),zf,dP,tS M],sM (aH rfl) _ _ (aU _)⟩;have E:=aA (show gk (l.take l.length)=gk l by rw[jS])
 clear hr hg b5 ac a8 U a6 b4;obtain⟨n,hn⟩:=ex l.length;rw[hn]at hl E t;rw[hn];have HN:=aA hn;clear hn hX;unfold Di Cp ptr;go_wp2_with fail
 go_loopw [23] (fun i wr=>∃k:Nat,k<=n/\i=.int .i64 k/\Hid (fV wr X 8 6 (.func (.func 270) #[] #[ptr (w.heap.size+1)]) (bT (cJ 6 (gk (l.take k))).2:Nat) ((cJ 6 (gk (l.take k))).2.length:Nat))/\Hid (jO X (w.heap.size+1) w.heap.size cP wr (cJ 6 (gk (l.take k))).1)/\Hid (Gr w wr)) (fun i _=>n-(intOf i).toNat)
 .exact⟨0,bW _,rfl,a9,aa,a5⟩
 .
  obtain⟨k,M,rfl,hR,hS,H⟩:=hrel;by_cases bf:k<n
  .have b1:(k:Int)<(n:Int):=by omega
   have be:=nn k
   have aj:k<l.length:=by have:=HN.out;omega
   have c0:=(H.cell HB.1).trans (HB.2 k _ (a4 k aj));unfold cU at c0;have hz:=dQ HB.1 H.size;have hx:=l[k].toNat_lt;have ab:=aA (a7 k aj);obtain⟨q1,q2⟩:=t.out k M;have a2:=aA (XB X 270 (w.heap.size+1) (jO X (w.heap.size+1) w.heap.size cP) w HP b8 (cJ 6 (gk (l.take k))).2 q2 l[k].toNat (by omega) (cJ 6 (gk (l.take k))).1 (by omega) wr hR hS H);generalize l[k].toNat=x at*
   have b6:IntKind.i64.wrap (x:Int)=(x:Int):=by rw[cV];omega
   clear q1 q2 hR hS;go_wp2_with fail;refine a2.mono ?_;rintro e L ⟨rfl,al,am,z⟩;have ar:=aA al;have au:=aA am;have u:=aA z;clear al am z c0 hz a2 b6;go_wp2_with fail;go_roundw
   .exact⟨k+1,by omega,by go_num,by show fV _ _ _ _ _ _ _;rw[ab.out];exact ar,by show jO _ _ _ _ _ _;rw[ab.out];exact au,u⟩
   .simp[intOf];omega
  .have b1:¬(k:Int)<(n:Int):=by omega
   have ai:k=n:=by omega
   obtain⟨q1,q2⟩:=t.out k M;rw[ai,E.out]at hR hS q1 q2;have ap:Hid (qW l=rO (lk (cJ 6 (gk l)))):=rfl;generalize cJ 6 (gk l)=r at*
   obtain⟨y,left⟩:=r;simp only at hR hS q1 q2;have HLF:=aA (Lz X 8 6 _ _ _ wr hR);have bd:y.length<=9000:=by omega
   clear ai a7 E t HP a4 a9 aa a5 HB hR q1 M;unfold ptr at HLF;go_wp2_with fail;refine bA HLF fun L z=>?_;have u:=aA (H.trans z);obtain⟨v,s,C,-,-⟩:=jO.gr _ _ _ hS.out z;have T:Hid (Ad (w.heap.size+1) w.heap.size L (y.map cP)):=⟨v,s,C⟩;have ao:=aA (HA.gr u);clear z hS H HLF HA s C;by_cases O:left=[]
   focus
    subst O;have q:=aA (show lk (y,[])=y.map cP by simp[lk])
    have K:=T;have G4:=u;rw[<-q.out]at K;have ad:=aA (show (lk (y,[])).length<=9001 by rw[q.out,cL];omega)
    generalize lk (y,[])=f at*
    have J:Hid (rO f=f++List.replicate ((4-f.length%4)%4) 61):=rfl;obtain⟨p,hp⟩:=ex ((4-f.length%4)%4);rw[hp]at J;have I:=aA hp;clear hp;go_wp2_with fail
   rotate_left
   focus
    have av:1<=left.length:=by cases left with|nil=>exact absurd rfl O|cons b l=>simp
    have q:=aA (show lk (y,left)=y.map cP++[cP (bT left*2^(6-left.length))] by unfold lk;rw[aF O])
    have S:=oP left;have hQ:bT left*2^(6-left.length)<64:=by
     have h6:2^left.length*2^(6-left.length)=64:=by rw[<-Cd,show left.length+(6-left.length)=6 by omega]
     rw[<-h6];exact FE S (y7 _)
    have hal:=ao (bT left*2^(6-left.length)) hQ;have af:(bT left:Int)*2^(6-left.length)=((bT left*2^(6-left.length):Nat):Int):=by simp
    obtain⟨v,s,C⟩:=T.out;have hc:L.cell? (aD (w.heap.size+1) 0)=some v:=bH (cs:=[v]) s 0;have hz:=(bY.1 s).1;have G:=C.ne s (aH rfl);have H1:=aA s;have P:=aA C;obtain⟨D,hD,ae⟩:∃D:Nat,(6:Int)-(left.length:Int)=(D:Int)/\6-left.length=D:=⟨6-left.length,by omega,rfl⟩;rw[ae]at hal hQ af q;obtain⟨d,hd⟩:=ex (cP (bT left*2^D));rw[hd]at hal q;unfold cU at hal;generalize bT left*2^D=Q at*
    generalize bT left=B at*
    have b9:(0:Int)<(left.length:Int):=by omega
    have ay:IntKind.i64.wrap (Q:Int)=(Q:Int):=by rw[cV];omega
    have ax:(Q:Int)<64:=by omega
    have aw:((D:Int)).toNat=D:=by simp
    have b7:IntKind.i64.wrap (D:Int)=(D:Int):=by rw[cV];omega
    have an:w.heap.size<=L.heap.size:=u.size;clear s C O av S ae hd T;go_wp2_with fail;apply rH (R:=fun x n W'=>Hid (Ad (w.heap.size+1) w.heap.size W' (y.map cP++[d]))/\Hid (Gr w W'))
    case h=>
     go_region_law (first|(refine wa rfl 47 rfl (.tmp 39) (.tmp 46) rfl w.heap.size v (y.map cP) (by simp[Act.eval]) (P.gr ((Gr.refl L).drew.alloc _)) (aR (L.heap.size) 0 1 1) [d] (by simp[Act.eval]) (aZ.made (l:=[d]) (cM L.drew _) an (by simp)) (y.length+1) (by simp) (by omega) (by simp;omega) ?_;intro a1 c1 w1 Z W;have HX:=km Z W;have F:=eH W ((((Gr.refl L).drew.alloc (.cells #[.int .u8 (d.toNat:Int)] 5)).block hz).trans H1) G;have bb:w1.cell? (aD (w.heap.size+1) 0)=some v:=bH (cs:=[v]) F 0;have bc:=ee (cs:=[v]) F 0;have bh:=(bY.1 F).1));all_goals exact⟨a1,c1,⟨⟨_,fC w1 (w.heap.size+1) 0 _ _ _ F,Z.set (w.heap.size+1) 0 _ (Z.ne F (aH rfl))⟩,((u.trans ((Gr.refl L).drew.alloc _)).grown W (fun k M=>(fA P k M).1)).setOwn (b:=w.heap.size+1) (o:=0) (by omega) _⟩,rfl⟩
    rintro x1 n1 W4 ⟨K,G4⟩;have ad:=aA (show (lk (y,left)).length<=9001 by rw[q.out,bV,cL];simp;omega)
    rw[<-q.out]at K;clear hc hz G H1 P hD q hal af ay ax aw hQ b7;generalize lk (y,left)=f at*
    have J:Hid (rO f=f++List.replicate ((4-f.length%4)%4) 61):=rfl;obtain⟨p,hp⟩:=ex ((4-f.length%4)%4);rw[hp]at J;have I:=aA hp;clear hp;go_wp2_with fail
   all_goals
    go_loopw [] (fun wr=>∃j:Nat,j<=p/\Hid (Ad (w.heap.size+1) w.heap.size wr (f++List.replicate j 61))/\Hid (Gr w wr)) (fun wr=>p+f.length-tj ((wr.cell? (aD (w.heap.size+1) 0)).getD undef))
    .exact⟨0,bW _,by show Ad _ _ _ _;simpa using K.out,G4⟩
    .
     obtain⟨j,hj,hT,H⟩:=hrel;obtain⟨v,s,C⟩:=hT.out;obtain⟨a,V,rfl⟩:=C.shape;rw[bV,oY]at s C;have hc:wr.cell? (aD (w.heap.size+1) 0)=some (.slice a (f.length+j) V):=bH (cs:=[.slice a (f.length+j) V]) s 0;have hz:=(bY.1 s).1;have G:=C.ne s (aH rfl);have H1:=aA s;have P:=aA C;have HC:=aA hc;obtain⟨m,hm⟩:=ex (f.length+j);rw[hm]at hc H1 P HC G;have HM:=aA hm;clear s C hm hT;by_cases h4:m%4=0
     .have Y:j=p:=by have:=I.out;have:=HM.out;omega
      have b2:(m:Int)%4=0:=by omega
      have a0:(convert 94 9 (.slice a m V)).run prog wr=.ok (.string (bs (rO f))) wr:=by
       have h:=P.str;rw[Y,<-J.out]at h;exact h
      rw[<-ap.out]at a0;clear Y h4;go_wp2_with fail;go_ret;exact⟨rfl,H⟩
     .have b2:¬(m:Int)%4=0:=by omega
      have Y:j<p:=by have:=I.out;have:=HM.out;omega
      have O7:=aA (P.gr ((Gr.refl wr).alloc (.cells #[.int .u8 61] 5)));have O8:Hid (aZ (wr.alloc (.cells #[.int .u8 61] 5)) w.heap.size (aR (wr.heap.size) 0 1 1) [61]):=aZ.made (l:=[61]) (cM wr _) H.size (by simp);have z7:w.heap.size<=(wr.alloc (.cells #[.int .u8 61] 5)).heap.size:=by have:=H.size;simp;omega
      have bg:m<=90000:=by have:=HM.out;have:=ad.out;have:=I.out;omega
      have B7:=aA ((((Gr.refl wr).alloc (.cells #[.int .u8 61] 5)).block hz).trans H1);have aq:=aA (show (f++List.replicate j 61).length+1=m+1 by rw[bV,oY,HM.out])
      clear h4;go_wp2_with (refine pp _ rfl _ _ rfl w.heap.size (.slice a m V) (f++List.replicate j 61) (by simp[Act.eval]) O7 (aR (wr.heap.size) 0 1 1) [61] (by simp[Act.eval]) O8 (m+1) aq (by omega) z7 ?_;intro a3 n3 w3 ak ah;have b3:=eH ah B7 G;have c3:w3.cell? (aD (w.heap.size+1) 0)=some (.slice a m V):=bH (cs:=[.slice a m V]) b3 0;have f3:=ee (cs:=[.slice a m V]) b3 0;have z3:=(bY.1 b3).1);have ag:=fC w3 (w.heap.size+1) 0 _ _ (.slice a3 (m+1) n3) b3;have az:(w3.setCell (aD (w.heap.size+1) 0) (.slice a3 (m+1) n3)).cell? (aD (w.heap.size+1) 0)=some (.slice a3 (m+1) n3):=bH (cs:=[.slice a3 (m+1) n3]) ag 0;refine⟨⟨j+1,by omega,⟨_,ag,?_⟩,((H.alloc _).grown ah (fun k M=>(fA P k M).1)).setOwn (b:=w.heap.size+1) (o:=0) (by omega) _⟩,?_⟩
      .have e:f++List.replicate (j+1) 61=f++List.replicate j 61++[61]:=by rw[tE,fl]
       rw[e];exact ak.set _ 0 _ (ak.ne b3 (aH rfl))
      .rw[az,HC.out];have:=HM.out;simp only[nj,tj];omega
def cS.sl{w:aB}{g o:Nat}{l:aM}(h:cS w g o l)(n c:Nat)(f:l.length=n)(d:n<=c):bX w (aR g o n c) 1 (iV l):=by
 subst f;refine⟨some (aD g o),c,by rw[kK],by rw[kK];exact d,fun j a=>?_⟩;rw[kK]at a;have b:=h.2 j _ (cO a);refine⟨g,o,rfl,h.1,?_,?_⟩
 .rw[ld,kr]
  intro i hi;obtain rfl:i=0:=by omega
  rw[fO,ms,b];rfl
 .have e:(iV l)[j]'(by rw[kK];exact a)=[cU l[j]]:=by simp[iV]
  rw[ld,e];simp[rowAt,fO,b]
def Lo{c:Array Oper}{o:Oper}{a:Act}{w:aB}{K:Act->aB->Prop}{Q:Exit->Act->aB->Prop}{E:Prop}
  (k:o.guard=none) (d:Nat) (j:o.dst=some d) (s x:Operand) (h:o.op=Op.call { callee:=Callee.builtin Builtin.append,args:=#[s,x],argTypes:=#[94,94] })
  (base:Nat) (v:Value) (xs:aM) (hs:a.eval s=v) (hown:aZ w base v xs) (sv:Value) (ys:aM) (hx:a.eval x=sv) (hsl:bX w sv 1 (iV ys)) (N:Nat) (hN:xs.length+ys.length=N) (h63:N<=1000000) (hbase:base<=w.heap.size)
  (hK:∀e f w',aZ w' base (.slice e N f) (xs++ys)->w.grownBy w' v.ownBlock->K (a.put (some d) (.slice e N f)) w'):
  if Region.wanted o (yielded c a.tmps)=true then Oper.wp prog o a w K Q else E:=by
 subst hN;have l:Region.wanted o (yielded c a.tmps)=true:=by simp[Region.wanted,k]
 rw[aG l];obtain⟨i,z,m,n,p,q,r⟩:=sr;obtain⟨e,f,w',b,g,h3,_⟩:=v_ (P:=prog) w base 94 o.type 5 i z 1 1 underlying94 m n p q r (aH rfl) v xs.length (xs.map cU) hown sv (iV ys) hsl (uP _) (xx _) (by rw[kK];exact h63) (aH rfl) hbase;rw[kK]at b g;rw[uT]at g;unfold Oper.wp;simp[execOp,h,resolve,invoke,builtin,hs,hx,b,Result.andThen];show K (a.put o.dst _) w';rw[j];refine hK e f w' ?_ h3;unfold aZ;rw[gD,bV];exact g
def gv(h:Int)(r:cE):aM:=UInt8.ofNat h.toNat::r.toList
def sd(h:Int)(r:cE):(gv h r).length=17:=by simp[gv]
def Fa(h:Int)(r:cE)(w:aB)(G:1<=h)(H:h<=8):Calls prog 32 #[aE (aN h r)] w fun e w'=>∃v,e=.returned v/\aZ w' w.heap.size v (gv h r)/\Gr w w':=by
 have g:=cM w (aC (aN h r) 44);have p:=(Gr.refl w).alloc (aC (aN h r) 44);have F:(w.alloc (aC (aN h r) 44)).cell? (aD (w.heap.size) 0)=some (.int .i64 h):=bH g 0
 have d:Hid (cS (w.alloc (aC (aN h r) 44)) w.heap.size 1 r.toList):=⟨by simp,fun j x B=>by
  rw[bH g];unfold aN;rw[pl,xt];unfold bC;rw[fo,B];rfl⟩
 have q:w.heap.size<(w.alloc (aC (aN h r) 44)).heap.size:=by simp
 have t:=aA p;obtain⟨n,C⟩:∃n:Nat,h=(n:Int):=⟨h.toNat,by omega⟩;subst C;have I:IntKind.u8.wrap (n:Int)=(n:Int):=by rw[gg];omega
 have D:(n:Int)%256=(n:Int):=by omega
 have o:cU (UInt8.ofNat n)=.int .u8 (n:Int):=by unfold cU;simp;omega
 have s:=aA o;go_in;go_wp2_with fail;generalize w.alloc (aC (aN (n:Int) r) 44)=W at*
 have u:Hid (aZ (W.drew.alloc (.cells #[.int .u8 (n:Int)] 5)) w.heap.size (aR (W.heap.size) 0 1 1) [UInt8.ofNat n]):=by
  rw[<-s.out];exact aZ.made (l:=[UInt8.ofNat n]) (cM W.drew _) (pz q) (by simp)
 have f:=aA ((d.gr ((Gr.refl W).drew.alloc (.cells #[.int .u8 (n:Int)] 5))).sl 16 16 (by simp) (aU _));have c:w.heap.size<=(W.drew.alloc (.cells #[.int .u8 (n:Int)] 5)).heap.size:=by simp;omega
 apply rH (R:=fun x m i=>Hid (aZ i w.heap.size (.slice x 17 m) (gv (n:Int) r))/\Hid (Gr w i))
 case h=>
  go_region_law (first|(refine Lo rfl 9 rfl (.tmp 6) (.tmp 8) rfl w.heap.size (aR (W.heap.size) 0 1 1) [UInt8.ofNat n] (by simp[Act.eval]) u (aR (w.heap.size) 1 16 16) r.toList (by simp[Act.eval]) f 17 (by simp) (aH rfl) c ?_;intro y z K b a));all_goals exact⟨y,z,⟨b,(t.trans ((Gr.refl W).drew.alloc (.cells #[.int .u8 (n:Int)] 5))).grown a (fun k hk=>by cases hk;exact pz q)⟩,rfl⟩
 rintro L J E ⟨b,a⟩;go_wp2_with fail;go_ret;exact⟨_,rfl,b,a⟩
def UK(g c n:Nat)(s:aJ)(w:aB)(f:n<=1000)(h:CG 235 #[aR g 0 n c] w (.string s)):
  Calls prog 200 #[aR g 0 n c] w (RG w (.tuple #[.string s,.int .i64 0])):=by
 have H:=aA h;have d:¬131072<(n:Int):=by omega
 go_in;go_wp2_with fail;refine bA H fun i a=>?_;have b:=aA a;clear a;go_wp2_with fail;go_ret2;exact⟨rfl,b⟩
def Wr(h:Int)(r:cE)(w:aB)(u:iD w)(F:1<=h)(G:h<=8):Calls prog 165 #[aE (aN h r)] w (RG w (.tuple #[.string (bs (mO h r)),.int .i64 0])):=by
 have o:=cM w (aC (aN h r) 44);have t:=(Gr.refl w).alloc (aC (aN h r) 44)
 have k:Hid (∀W,CG 30 #[aE (aN h r)] W (.int .i64 0)):=fun W=>by
  have p:=pf h r W;rw[show cH h=0 by unfold cH;rw[aF (by omega)]]at p;exact p
 have j:Hid (∀W,Calls prog 32 #[aE (aN h r)] W fun e w'=>∃v,e=.returned v/\aZ w' W.heap.size v (gv h r)/\Gr W w'):=fun W=>Fa h r W F G;have n:=aA (sd h r);have D:=aA u;have E:Hid (qW (gv h r)=mO h r):=rfl;have K:=aP o 0 17 (by rw[bG];decide);have I:=(bJ o 0 17 (by rw[bG];decide)).trans (b_ _ _ (bG h r));have s:=aA o;have z:=aA t;clear o t u;go_in;go_wp2_with fail;refine bA (k _) fun M i=>?_;have f:=(i.block (b:=w.heap.size) (by simp)).trans s;have L:=aP f 0 17 (by rw[bG];decide);have J:=(bJ f 0 17 (by rw[bG];decide)).trans (b_ _ _ (bG h r));have B:=aA (z.trans i);clear K I i f s;go_wp2_with fail;refine(j _).mono ?_;rintro e y ⟨v,rfl,x,l⟩;have q:=aA (B.trans l);obtain⟨g,c,rfl,p,H,_,a⟩:=x.cells (by intro e;have:=n.out;rw[e]at this;cases this);have d:=aA (Oc g 0 c (gv h r) y (D.gr q) (by rw[n.out];decide) ⟨H,a⟩);rw[n.out,E.out]at d;rw[n.out];clear x l a L J j k;go_wp2_with fail;refine bA (UK g c 17 _ y (aH rfl) d) fun N m=>?_;have C:=aA (q.trans m);clear m d;go_wp2_with fail;go_ret2;exact⟨rfl,C⟩
section
def jI(P:Program)(t:TypeId)(n:Nat)(a:Array (Nat×Value))(w:aB):Result Next:=(do pure (Next.value (<-Instr.buildSlice t n a)):Sem Next).run P w
@[local go_sem ↓] def abg {P:Program} (b:Operand->Value) (d:Option Tmp) (a:Array (Nat×Operand)) (e:TypeId) (p:String) (c:Array Edge) (g:Option (Nat×Bool)) (w:aB):
  Sem.run P (execOp b ⟨d,.buildSlice 85 1 a,e,p,c,g⟩) w=jI P 85 1 (a.map fun x=>(x.1,b x.2)) w:=rfl
def qc{P:Program}{t:TypeId}{n:Nat}{a:Array (Nat×Value)}{v:Value}{w w':aB}(h:(Instr.buildSlice t n a).run P w=.ok v w'):jI P t n a w=.ok (.value v) w':=by simp[jI,h]
def aaY(f:Nat->Value)(w:aB):(Instr.buildSlice 85 1 #[(0,aE ((List.range 16).map f))]).run prog w=.ok (aR (w.heap.size) 0 1 1) (w.alloc (aC ((List.range 16).map f) 42)):=by kernel_rfl
@[local go_sem] def ZE (y:cE) (w:aB):jI prog 85 1 #[(0,aE (bC y))] w=.ok (.value (aR (w.heap.size) 0 1 1)) (w.alloc (aC (bC y) 42)):=qc (by rw[ly];exact aaY _ w)
end
def Gx(s:aT):Prop:=s≠[]/\(∀c∈s,32<=c.toNat/\c.toNat<=126)/\s.head? ≠some 32/\s.getLast? ≠some 32
def V'{s:aT}(b:s≠[])(h:∀c∈s,33<=c.toNat/\c.toNat<=126):Gx s:=by
 refine⟨b,fun c a=>⟨by have:=(h c a).1;omega,(h c a).2⟩,fun e=>?_,fun e=>?_⟩
 .have:=(h 32 (List.mem_of_head? e)).1;revert this;decide
 .have:=(h 32 (List.mem_of_getLast? e)).1;revert this;decide
def Sh(s:aJ):(iL s).map bl=dS 46 (bl s):=by
 unfold iL;rw[<-Ew 46 (bl s).length (bl s) (aU _)];exact Lib.splitB_data ⟨#[46]⟩ 0 _ s
def TJ:∀c:UInt8,fp c=true->33<=c.toNat/\c.toNat<=126:=qA (by decide+kernel)
def Ll(h:Int)(r:cE):Gx (mO h r)/\(mO h r).length<=24:=by
 unfold mO;obtain⟨t,p,e,f,_,g,d⟩:=RV (UInt8.ofNat h.toNat::r.toList);simp only[dN,oU]at d;have a:t.length=23:=by omega
 rw[e];unfold rO;rw[a];refine⟨V' (fun q=>?_) (fun c b=>?_),by rw[bV,oY,a];decide⟩
 .have:=ei List.length q;rw[bV,a]at this;simp at this
 .rw[mf,List.mem_replicate]at b
  rcases b with b|⟨_,rfl⟩
  .exact TJ c (gY.1 f c b)
  .decide
end Go.Proofs.YtjfaogajmoffoaaGreatDoor
