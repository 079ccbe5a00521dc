/- Lemmas for VerifyStatus. -/
import Derived.Test.YtjfaogajmoffoaaGreatDoorQBB
import Derived.WideMake
set_option maxRecDepth 100000
set_option maxHeartbeats 16000000
set_option linter.all false
namespace Go.Proofs.YtjfaogajmoffoaaGreatDoor
open Go.RowKit Tryz
def gu(n:Int):ByteArray:=bs (Lib.itoa n)
def mO(h:Int)(r:cE):aT:=qW (UInt8.ofNat h.toNat::r.toList)
def eH{w w':aB}{row:Option Nat}(h:w.grownBy w' row){b:Nat}{o:Obj}(a:w.heap[b]? =some o) (c:row≠some b):w'.heap[b]? =some o:=
 (h.block b (bY.1 a).1 (fun e=>c e.symm)).trans a
def ur{w w':aB}{row:Option Nat}(h:w.grownBy w' row){p:Addr}{v:Value}(a:w.cell? p=some v)(b:row≠some p.block):w'.cell? p=some v:=
 (vg (h.block p.block (ka w p a) (fun e=>b e.symm))).trans a
section
section
variable (t : Id) (g : ByteArray) (n : Int) (m : Bool) (l : List cE) (tx : ByteArray) (nu ht : Int) (r : cE)
end
end
def ec(w:aB)(b:Nat)(s:aJ)(p:PS):Prop:=w.heap[b]? =some (.cells #[.string s,.int .i64 p.start,.int .i64 p.fin,.int .i64 p.at_,.int .i64 p.e] 328)
def ec.gr{w w':aB}{b:Nat}{s:aJ}{p:PS}(h:ec w b s p)(a:Gr w w'):ec w' b s p:=(a.block (bY.1 h).1).trans h
def ec.facts{w:aB}{b:Nat}{s:aJ}{p:PS}(h:ec w b s p):w.cell? (aD b 0)=some (.string s)/\w.cell? (aD b 1)=some (.int .i64 p.start)/\w.cell? (aD b 2)=some (.int .i64 p.fin)/\w.cell? (aD b 3)=some (.int .i64 p.at_)/\w.cell? (aD b 4)=some (.int .i64 p.e)/\(∀k,w.frozen? (aD b k)=false)/\b<w.heap.size:=
 ⟨oW w b 0 _ _ _ h,oW w b 1 _ _ _ h,oW w b 2 _ _ _ h,oW w b 3 _ _ _ h,oW w b 4 _ _ _ h,fun k=>(by have a:w.heap[b]? =_:=h;simp[World.frozen?,a]),(bY.1 h).1⟩
def lG(w:aB)(b k:Nat)(u:Value):w.grownBy (w.setCell (aD b k) u) (some b):=
 ⟨rfl,rfl,rfl,by simp,fun j _ a=>cG w (aD b k) j u (fun e=>a (by rw[e]))⟩
def na(w:aB)(row:Option Nat):w.grownBy w row:=⟨rfl,rfl,rfl,aU _,fun _ _ _=>rfl⟩
def dG{a b c:aB}{row:Option Nat}(h:a.grownBy b row)(k:b.grownBy c row):a.grownBy c row:=
 ⟨k.os.trans h.os,k.tape.trans h.tape,k.output.trans h.output,eu h.size k.size,fun i hi d=>(k.block i (dQ hi h.size) d).trans (h.block i hi d)⟩
def dW{a b:aB}{row:Option Nat}(h:Gr a b):a.grownBy b row:=⟨h.os,h.tape,h.output,h.size,fun c hi _=>h.block hi⟩
def ec.set1{w:aB}{b:Nat}{s:aJ}{p:PS}(h:ec w b s p)(n:Nat):ec (w.setCell (aD b 1) (.int .i64 n)) b s { p with start:=n }:=fC w b 1 _ _ _ h
def ec.set2{w:aB}{b:Nat}{s:aJ}{p:PS}(h:ec w b s p)(n:Nat)(r:List aT):ec (w.setCell (aD b 2) (.int .i64 n)) b s { p with fin:=n,rest:=r }:=fC w b 2 _ _ _ h
def ec.set3{w:aB}{b:Nat}{s:aJ}{p:PS}(h:ec w b s p)(n:Nat):ec (w.setCell (aD b 3) (.int .i64 n)) b s { p with at_:=n }:=fC w b 3 _ _ _ h
def ec.set4{w:aB}{b:Nat}{s:aJ}{p:PS}(h:ec w b s p)(n:Int):ec (w.setCell (aD b 4) (.int .i64 n)) b s { p with e:=n }:=fC w b 4 _ _ _ h
def tK(b:Nat)(s:aJ)(p:PS)(w:aB)(v:Value)(e:Ending)(w':aB):Prop:=e=.returned v/\ec w' b s p/\w.grownBy w' (some b)
def mH(b:Nat)(s:aJ)(p:PS)(a:Nat)(c:Int)(w:aB)(h:ec w b s p):
  Calls prog 224 #[bZ b,.int .i64 a,.int .i64 c] w (tK b s (p.fail a c) w (.tuple #[])):=by
 obtain⟨n,o,r,t,k,j,u⟩:=h.facts;have l:=j 3;have m:=j 4;have H:=aA h;by_cases d:p.e=0/\c≠0
 .have f:=aA (show p.fail a c={ p with at_:=a,e:=c } by unfold PS.fail;rw[aG d])
  have i:(c != 0)=true:=by simp[d.2]
  rw[d.1]at k;go_in;go_wp2_with fail
  go_end0
  refine⟨rfl,?_,?_⟩
  .rw[f.out];exact(H.set3 a).set4 c
  .exact dG (lG _ _ _ _) (lG _ _ _ _)
 .have f:=aA (show p.fail a c=p by unfold PS.fail;rw[aF d])
  by_cases g:p.e=0
  .have i:c=0:=qi fun q=>d ⟨g,q⟩
   subst i;rw[g]at k;go_in;go_wp2_with fail
   go_end0
   exact⟨rfl,by rw[f.out];exact H,na _ _⟩
  .have i:(p.e==0)=false:=by simp[g]
   go_in;go_wp2_with fail
   go_end0
   exact⟨rfl,by rw[f.out];exact H,na _ _⟩
def B9(s:aJ)(k:Nat):bl (s.extract k s.size)=(bl s).drop k:=by
 have e:s.size=s.data.toList.length:=Lib.size_eq s;unfold bl;rw[xI,yA,yI,eq (by rw[eh,e];exact aU _)]
def Zy(t:aJ)(m:Int)(W:aB)(f:t.size<=1000000)(d:W.cell? (aD 4 0)=some (.int .i64 m)):
  ∃y z,∀n,Calls prog 222 #[.string t,.string ⟨#[32]⟩] (W.drewN n) fun e a=>e=.returned (.tuple #[.string (bs (Lib.cut (bl t) [32]).1),.string y,.bool z])/\∃k,a=W.drewN k:=
 ⟨_,_,fun n=>(Tryz.strings_Cut t ⟨#[32]⟩ m (W.drewN n) (by omega) d).mono fun _ _ ⟨b,k,c⟩=>⟨b,n+k,by rw[c,Li]⟩⟩
def QB(x:aT):(bs x).size=x.length:=rfl
def Gq(s:aJ)(k:Nat):(s.extract k s.size).size<=s.size:=by
 rw[<-bN,B9,eh,bN];omega
def uJ(b:Nat)(s:aJ)(p:PS)(w:aB)(h:ec w b s p)(d:dH (bl s) p)(hs:s.size<=1000000)(Z:ff w)(hb:4<b):
  Calls prog 278 #[bZ b] w (tK b s (p.next s.size).1 w (.tuple #[.string (bs (p.next s.size).2.1),.bool (p.next s.size).2.2])):=by
 obtain⟨V,W,I,X,u,C,hz⟩:=h.facts;have a:=d.end_;rw[bN]at a;by_cases c:p.e=0
 .cases hr:p.rest with
  |nil=>
   have l:=a.1 hr;have f:=aA (show p.next s.size=({ p with at_:=s.size,e:=4 },[],false) by unfold PS.next;rw[aF (by simp[c]),hr])
   have q:=aA (show p.fail s.size 4={ p with at_:=s.size,e:=4 } by unfold PS.fail;rw[aG ⟨c,by decide⟩])
   rw[c]at u;rw[l]at I;have H:=aA h;clear a C;go_in;go_wp2_with fail
   go_quiet (fail)
   go_wp2_with fail;refine(mH b s p s.size 4 _ (H.gr ((Gr.refl w).drewN _))).mono ?_;rintro e w1 ⟨rfl,n,m⟩;rw[q.out]at n;obtain⟨J,K,L,M,N,_,G⟩:=n.facts;have U:=aA (dG (dW ((Gr.refl w).drewN nq)) m);have R:=aA n;clear m n;go_wp2_with fail;go_ret2;exact⟨by rw[f.out];rfl,by rw[f.out];exact R,U⟩
  |cons x Q=>
   obtain⟨g,i,E⟩:=d.cut hr;rw[bN]at E;have f:=aA (show p.next s.size=({ p with start:=p.fin+1,fin:=p.fin+1+x.length,rest:=Q },x,true) by unfold PS.next;rw[aF (by simp[c]),hr])
   have a2:((p.fin:Int)==(s.size:Int))=false:=by simp;omega
   rw[c]at u;have H:=aA h;obtain⟨mx,P⟩:=Z;clear a;go_in;go_wp2_with fail
   go_quiet (fail)
   go_wp2_with fail;have v:((p.fin:Int)+1)=((p.fin+1:Nat):Int):=by omega
   rw[v];have B:=ec.set1 (H.gr ((Gr.refl w).drewN nq)) (p.fin+1);have k:=dG (dW (row:=some b) ((Gr.refl w).drewN nq)) (lG (w.drewN nq) b 1 (.int .i64 ((p.fin+1:Nat):Int)));generalize(w.drewN nq).setCell (aD b 1) (.int .i64 ((p.fin+1:Nat):Int))=W1 at*
   obtain⟨J,K,L,M,N,a1,G⟩:=B.facts;have F:=ur k P (by simp<;>omega);have S:=aA B;have r:=aA k
   have T:=aA g;have t:=aA i;simp only at J K L M N;clear v g i hr d h c B k V W I X u C P;obtain⟨y,z,j⟩:=Zy (s.extract (p.fin+1) s.size) mx W1 (eu (Gq s _) hs) F;rw[B9,T.out]at j;have o:=aA j;clear j
   go_quiet ((go_at_call 222;exact o _))
   have hx:=QB x;have a4:((p.fin+1:Nat):Int)+(x.length:Int)<=1000000:=by have:=t.1;simp only at this;rw[bN]at this;omega
   have hw:IntKind.i64.wrap (((p.fin+1:Nat):Int)+(x.length:Int))=((p.fin+1+x.length:Nat):Int):=by rw[cV];omega
   have a3:IntKind.i64.wrap ((p.fin:Int)+1+(x.length:Int))=((p.fin+1+x.length:Nat):Int):=by rw[cV];omega
   go_wp2_with fail;have O:((p.fin:Int)+1+(x.length:Int))=((p.fin+1+x.length:Nat):Int):=by omega
   have Y:=aA (ec.set2 (S.gr ((Gr.refl W1).drewN nq)) (p.fin+1+x.length) Q);have D:=aA (dG r (dG (dW ((Gr.refl W1).drewN nq)) (lG (W1.drewN nq) b 2 (.int .i64 ((p.fin+1+x.length:Nat):Int)))));go_ret2;rw[O];exact⟨by rw[f.out];rfl,by rw[f.out];exact Y,D⟩
 .have f:=aA (show p.next s.size=(p,[],false) by unfold PS.next;rw[aG c])
  have v:(p.e==0)=false:=by simp[c]
  have O:(p.e != 0)=true:=by simp[c]
  have H:=aA h;clear a d c C;go_in;go_wp2_with fail
  go_quiet (fail)
  go_wp2_with fail;go_ret2;exact⟨by rw[f.out];rfl,by rw[f.out];exact H.gr ((Gr.refl w).drewN nq),dW ((Gr.refl w).drewN nq)⟩
def J_(s:aJ)(k:Nat)(h:k<s.size):((bl s).take (k+1)).all gH=(((bl s).take k).all gH&&(!decide ((s[k].toNat:Int)<48)&&!decide (57<(s[k].toNat:Int))))/\fS ((bl s).take (k+1))=10*fS ((bl s).take k)+(s[k].toNat-48):=by
 have a:k<(bl s).length:=by rw[bN];exact h
 have e:(bl s)[k]=s[k]:=rfl;rw[eF a,e];refine⟨?_,Do _ _⟩;rw[rW];congr 1;rw[nm,rP,pW];unfold gH;rw[kE];simp;omega
def Mj(s:aT)(k:Nat)(h:(s.take k).all gH=false):s.all gH=false:=by
 cases hs:s.all gH with
 |false=>rfl
 |true=>
  rw[<-lq k s,rW,fH]at hs;rw[hs.1]at h;cases h
def qP(s:aT):Value:=.tuple #[.int .i64 (if iB s=true then(fS s:Int)else 0),.bool (iB s)]
def IQ(s:aJ)(h:0<s.size):(bl s).headD 0=s[0]:=by
 have b:0<(bl s).length:=by rw[bN];exact h
 obtain⟨c,l,a⟩:∃c l,bl s=c::l:=by cases e:bl s with|nil=>rw[e]at b;simp at b|cons c l=>exact⟨c,l,rfl⟩
 have e:(bl s)[0]'b=s[0]:=rfl
 exact Eq.trans (show(bl s).headD 0=c by rw[a];rfl) (Eq.trans (by simp[a]) e)
def aaJ(s:aJ)(w:aB):Calls prog 280 #[.string s] w fun e w'=>e=.returned (qP (bl s))/\w=w':=by
 have a:=bN s;by_cases o:s.size=0
 .have x:bl s=[]:=fQ.1 (by rw[a];exact o)
  have L:s.toList.isEmpty=true:=by rw[hI,x];rfl
  have b:=aA (show qP (bl s)=.tuple #[.int .i64 0,.bool false] by rw[x];rfl)
  go_in;go_wp2_with fail;go_ret2;exact⟨by rw[b.out];rfl,rfl⟩
 .have O:0<s.size:=by omega
  have L:s.toList.isEmpty=false:=by rw[hI,tp];intro h;rw[h]at a;simp at a;omega
  by_cases S:7<s.size
  .have b:Hid (qP (bl s)=.tuple #[.int .i64 0,.bool false]):=by
    have:iB (bl s)=false:=by unfold iB;rw[a];simp;omega
    show _=_;unfold qP;rw[this];rfl
   have K:decide (7<(s.size:Int))=true:=by simp;omega
   go_in;go_wp2_with fail;go_ret2;exact⟨by rw[b.out];rfl,rfl⟩
  .have K:decide (7<(s.size:Int))=false:=by simp;omega
   have z:=aA (IQ s O);by_cases f:1<s.size/\s[0].toNat=48
   .have b:Hid (qP (bl s)=.tuple #[.int .i64 0,.bool false]):=by
     have:iB (bl s)=false:=by
      unfold iB;rw[a,z.out];have:(s[0]==48)=true:=by rw[lu];exact lP.1 f.2
      rw[this];simp[f.1]
     show _=_;unfold qP;rw[this];rfl
    have m:decide (1<(s.size:Int))=true:=by simp;omega
    have T:((s[0].toNat:Int)==48)=true:=by rw[f.2];rfl
    go_in;go_wp2_with fail;go_ret2;exact⟨by rw[b.out];rfl,rfl⟩
   .have r:Hid (iB (bl s)=(bl s).all gH):=by
     show _=_;unfold iB;rw[a,z.out];have D:decide (1<=s.size)=true:=by simp;omega
     have E:decide (s.size<=7)=true:=by simp;omega
     have F:(decide (1<s.size)&&s[0]==48)=false:=by
      rw[zt];by_cases q:1<s.size
      .right;rw[dI];intro e;exact f ⟨q,by rw[e];rfl⟩
      .left;simpa using q
     rw[D,E,F];rfl
    have d:decide (1<(s.size:Int))=false\/(decide (1<(s.size:Int))=true/\((s[0].toNat:Int)==48)=false):=by
     by_cases q:1<s.size
     .right;refine⟨by simp;omega,?_⟩
      rw[dI];intro e;exact f ⟨q,by omega⟩
     .left;simp;omega
    have j:=aA a;rcases d with m|⟨m,H⟩
    all_goals
     go_in;go_wp2_with fail
     go_loop [4,5,25,26,27,28,29,30,31,32,33,34,35,36,37,38,39,40,41,42,43,44,45,46] (fun R _ i _ _ _ _ _ _ _ _ _ _ _ _ _ _ _ _ _ _ _ _ _=>∃k:Nat,k<=s.size/\i=.int .i64 k/\R=.int .i64 (fS ((bl s).take k):Int)/\Hid (((bl s).take k).all gH=true)) (fun _ _ i _ _ _ _ _ _ _ _ _ _ _ _ _ _ _ _ _ _ _ _ _=>s.size-(intOf i).toNat)
     .exact⟨0,bW _,rfl,rfl,rfl⟩
     .
      obtain⟨k,U,rfl,rfl,u⟩:=hrel;by_cases y:k<s.size
      .have t:=aA (J_ s k y)
       have g:Hid (((bl s).take (k+1)).all gH=false->(bl s).all gH=false):=Mj _ _;have v:(k:Int)<(s.size:Int):=by omega
       have M:(0:Int)<=(k:Int):=by omega
       have l:=L_ ((bl s).take k) u.out;have G:fS ((bl s).take k)<10000000:=dQ l (show 10^((bl s).take k).length<=10^7 from nR (aH rfl) (by rw[dP];omega));have I:=s[k].toNat_lt;generalize N:fS ((bl s).take k)=n at*
       have C:Hid (fS ((bl s).take (k+1))=10*n+(s[k].toNat-48)):=t.out.2;have p:Hid (((bl s).take (k+1)).all gH=(((bl s).take k).all gH&&(!decide ((s[k].toNat:Int)<48)&&!decide (57<(s[k].toNat:Int))))):=t.out.1;generalize J:s[k].toNat=c at*
       cases hx:decide ((c:Int)<48)with
       |true=>
        have b:Hid ((bl s).all gH=false):=g.out (by rw[p.out,hx];simp);go_wp2_with fail;go_ret2;exact⟨by unfold qP;rw[r.out,b.out];rfl,rfl⟩
       |false=>
        cases hy:decide (57<(c:Int))with
        |true=>
         have b:Hid ((bl s).all gH=false):=g.out (by rw[p.out,hy];simp);go_wp2_with fail;go_ret2;exact⟨by unfold qP;rw[r.out,b.out];rfl,rfl⟩
        |false=>
         have b:=aA (show ((bl s).take (k+1)).all gH=true by rw[p.out,hx,hy,u.out];rfl)
         have P:48<=c:=by have:=tm hx;omega
         have Q:c<=57:=by have:=tm hy;omega
         have W:IntKind.i64.wrap (10*(n:Int))=10*(n:Int):=by rw[cV];omega
         have X:IntKind.u8.wrap ((c:Int)-48)=((c-48:Nat):Int):=by rw[gg];omega
         have Y:IntKind.i64.wrap (10*(n:Int)+((c-48:Nat):Int))=((10*n+(c-48):Nat):Int):=by rw[cV];omega
         have Z:IntKind.i64.wrap ((c-48:Nat):Int)=((c-48:Nat):Int):=by rw[cV];omega
         generalize V:c-48=q at*
         go_wp2_with fail
         go_round
         .exact⟨k+1,by omega,by go_num,by rw[C.out];first|rfl|(congr 1;omega),b.out⟩
         .simp[intOf];omega
      .have v:¬(k:Int)<(s.size:Int):=by omega
       have b:Hid ((bl s).take k=bl s):=eq (by rw[j.out];omega);go_wp2_with fail;go_ret2;have B:=u.out;rw[b.out]at B;refine⟨?_,rfl⟩;unfold qP;rw[r.out,B,b.out];rfl
def ff.grown{w w':aB}{b:Nat}(h:ff w)(a:w.grownBy w' (some b))(d:4<b):ff w':=by
 obtain⟨m,c⟩:=h;exact⟨m,ur a c (by simp;omega)⟩
def m9(p:PS)(a:Nat):p.fail a 0=p:=by unfold PS.fail;rw[aF (by simp)]
def Ef{p:PS}{n:Nat}(h:(p.next n).2.2=false):(p.next n).2.1=[]:=by
 unfold PS.next at*
 by_cases a:p.e≠0
 .rw[aG a]
 .rw[aF a]at h|-
  cases hr:p.rest with
  |nil=>rfl
  |cons w b=>rw[hr]at h;cases h
def Fv(b:Nat)(s:aJ)(p:PS)(w:aB)(h:ec w b s p)(hok:dH (bl s) p)(hs:s.size<=1000000)(hE:ff w)(hb:4<b):
  Calls prog 255 #[bZ b] w (tK b s (p.groupP s.size).1 w (.string (bs (p.groupP s.size).2))):=by
 have n:=aA (uJ b s p w h hok hs hE hb);have v:=aA hE;have i:Hid (p.groupP s.size=if(p.next s.size).2.2=true then((p.next s.size).1.fail (p.next s.size).1.start (jW (p.next s.size).2.1),(p.next s.size).2.1)else((p.next s.size).1,[])):=rfl;have y:Hid ((p.next s.size).2.2=false->(p.next s.size).2.1=[]):=Ef;generalize p.next s.size=q at*
 obtain⟨B,x,ok⟩:=q;simp only at n i y
 cases ok with
 |false=>
  have L:=y rfl;subst L;go_in;go_wp2_with fail;refine n.mono ?_;rintro e C ⟨rfl,f,a⟩;have k:=aA f;have c:=aA a;go_wp2_with fail;go_ret;exact⟨by rw[i.out];rfl,by rw[i.out];exact k,c⟩
 |true=>
  by_cases m:jt (bs x)=0
  .have g:=aA (show jW x=0 by unfold jW;rw[aF (by simp[m])])
   go_in;go_wp2_with fail;refine n.mono ?_;rintro e C ⟨rfl,f,a⟩;have k:=aA f;have c:=aA a;go_wp2_with (go_at_call 196;refine bA (F2 _ _ (v.grown c hb)) fun D d=>?_;rw[m]);have u:=aA (k.gr d);have j:=aA (dG c (dW d));go_ret;exact⟨by rw[i.out];rfl,by rw[i.out,aG eV,g.out];rw[m9];exact u,j⟩
  .have g:=aA (show jW x=12 by unfold jW;rw[aG m])
   have K:(jt (bs x) != 0)=true:=by simp[m]
   go_in;go_wp2_with fail;refine n.mono ?_;rintro e C ⟨rfl,f,a⟩;have k:=aA f;have c:=aA a;go_wp2_with fail;refine bA (F2 _ _ (v.grown c hb)) fun D d=>?_;have o:=k.gr d;obtain⟨F,G,H,I,J,_,M⟩:=o.facts;have u:=aA o;have j:=aA (dG c (dW d));have r:=aA (mH b s B B.start 12 D o);clear o d m;generalize jt (bs x)=N at*
   go_wp2_with fail;refine r.mono ?_;rintro e O ⟨rfl,z,l⟩;have E:=aA z;have t:=aA (dG j l);go_wp2_with fail;go_ret;exact⟨by rw[i.out];rfl,by rw[i.out,aG eV,g.out];exact E,t⟩
def Fi(b:Nat)(s:aJ)(p:PS)(lo hi:Int)(w:aB)(h:ec w b s p)(hok:dH (bl s) p)(hs:s.size<=1000000)(hE:ff w)(hb:4<b):
  Calls prog 257 #[bZ b,.int .i64 lo,.int .i64 hi] w (tK b s (p.numP s.size lo hi).1 w (.int .i64 (p.numP s.size lo hi).2)):=by
 have n:=aA (uJ b s p w h hok hs hE hb);have i:Hid (p.numP s.size lo hi=if(p.next s.size).2.2=true then((p.next s.size).1.fail (p.next s.size).1.start (ja lo hi (p.next s.size).2.1),lR (p.next s.size).2.1)else((p.next s.size).1,0)):=rfl;generalize p.next s.size=q at*
 obtain⟨u,x,ok⟩:=q;simp only at n i
 cases ok with
 |false=>
  go_in;go_wp2_with fail;refine n.mono ?_;rintro e r ⟨rfl,d,a⟩;have v:=aA d;have c:=aA a;go_wp2_with fail;go_ret;exact⟨by rw[i.out];rfl,by rw[i.out];exact v,c⟩
 |true=>
  have m:Hid (∀W,Calls prog 280 #[.string (bs x)] W fun e w'=>e=.returned (.tuple #[.int .i64 (lR x),.bool (iB x)])/\W=w'):=aaJ (bs x);have z:Hid (ja lo hi x=if iB x=false then 3 else if lR x<lo\/hi<lR x then 2 else 0):=by
   show _=_;unfold ja lR
   cases iB x<;>rfl
  generalize lR x=j at*
  cases hnb:iB x with
  |false=>
   rw[hnb]at m;have f:=aA (show ja lo hi x=3 by rw[z.out,aG hnb])
   go_in;go_wp2_with fail;refine n.mono ?_;rintro e r ⟨rfl,d,a⟩;have k:=aA (mH b s u u.start 3 r d);obtain⟨B,C,D,E,F,_,H⟩:=d.facts;have c:=aA a;go_wp2_with (go_at_call 280;refine dK (m _) ?_);refine k.mono ?_;rintro e K ⟨rfl,o,g⟩;have y:=aA o;have l:=aA (dG c g);go_wp2_with fail;go_ret;exact⟨by rw[i.out];rfl,by rw[i.out,aG eV,f.out];exact y,l⟩
  |true=>
   rw[hnb]at m;by_cases t:j<lo\/hi<j
   .have f:=aA (show ja lo hi x=2 by rw[z.out,aF (by rw[hnb];decide),aG t])
    go_in;go_wp2_with fail;refine n.mono ?_;rintro e r ⟨rfl,d,a⟩;have k:=aA (mH b s u u.start 2 r d);obtain⟨B,C,D,E,F,_,H⟩:=d.facts;have c:=aA a;have G:decide (j<lo)=true\/(decide (j<lo)=false/\decide (hi<j)=true):=by
     rcases Decidable.em (j<lo)with q|q
     .left;simpa using q
     .right;exact⟨by simpa using q,by simp;omega⟩
    rcases G with I|⟨I,J⟩
    all_goals
     go_wp2_with (go_at_call 280;refine dK (m _) ?_);refine k.mono ?_;rintro e K ⟨rfl,o,g⟩;have y:=aA o;have l:=aA (dG c g);go_wp2_with fail;go_ret;exact⟨by rw[i.out];rfl,by rw[i.out,aG eV,f.out];exact y,l⟩
   .have f:=aA (show ja lo hi x=0 by rw[z.out,aF (by rw[hnb];decide),aF t])
    have I:decide (j<lo)=false:=by simp;omega
    have J:decide (hi<j)=false:=by simp;omega
    go_in;go_wp2_with fail;refine n.mono ?_;rintro e r ⟨rfl,d,a⟩;have v:=aA d;have c:=aA a;go_wp2_with (go_at_call 280;refine dK (m _) ?_);go_ret;exact⟨by rw[i.out];rfl,by rw[i.out,aG eV,f.out];rw[m9];exact v,c⟩
section
theorem vo{w a:aB}{row:Option Nat}(h:w.grownBy a row){k o:Nat}(c:w.heap.size<=k)(u:Value):w.grownBy (a.setCell (aD k o) u) row:=
 ⟨h.os,h.tape,h.output,by simpa using h.size,fun i hi b=>(cG a (aD k o) i u (by show i≠k;omega)).trans (h.block i hi b)⟩
theorem ko{w:aB}{row:Option Nat}{b:Nat}(c:w.heap.size<=b):∀(l:bF) (k:Nat) (a:aB),w.grownBy a row->w.grownBy (a.setCells b k l) row
 |[],_,_,h=>h
 |v::l,k,a,h=>ko c l (k+1) (a.setCell (aD b k) v) (vo h c v)
theorem qT(b:Nat)(t:TypeId)(c:bF):∀(l a mid:bF) (w:aB),mid.length=l.length->HB w b (a++(mid++c)) t->
  HB (w.setCells b a.length l) b (a++(l++c)) t
 |[],a,mid,w,h,hb=>by obtain rfl:mid=[]:=fQ.1 h;exact hb
 |v::l,a,mid,w,h,hb=>by
  obtain⟨p,d,rfl⟩:∃p q,mid=p::q:=by cases mid with|nil=>simp at h|cons p q=>exact⟨p,q,rfl⟩
  have f:=fC w b a.length _ t v hb;have e:(a++(p::d++c)).toArray.setIfInBounds a.length v=((a++[v])++(d++c)).toArray:=by simp
  rw[e]at f;have:=qT b t c l (a++[v]) d (w.setCell (aD b (a.length)) v) (by simpa using h) f;simp only[bV,dN,iJ,fB,fl,mB,mZ]at this|-
  exact this
theorem bO{w:aB}{b:Nat}{t:TypeId}{z cs:bF}(h:HB w b z t) (a:z.length=cs.length):HB (w.setCells b 0 cs) b cs t:=by
 have:=qT b t [] cs [] z w a (by simpa using h);simpa using this
theorem cD{b:Nat}{i:Nat}(hi:i≠b):∀(l:bF) (k:Nat) (w:aB),(w.setCells b k l).heap[i]? =w.heap[i]?
 |[],_,_=>rfl
 |v::l,k,w=>(cD hi l (k+1) (w.setCell (aD b k) v)).trans (cG w (aD b k) i v hi)
theorem kB(b:Nat):∀(l:bF) (k:Nat) (w:aB),(w.setCells b k l).heap.size=w.heap.size
 |[],_,_=>rfl
 |v::l,k,w=>(kB b l (k+1) (w.setCell (aD b k) v)).trans (by simp)
theorem ec.other{w w':aB}{b:Nat}{s:aJ}{p:PS}(h:ec w b s p)(a:w'.heap[b]? =w.heap[b]?):ec w' b s p:=a.trans h
section
variable {w : World} {b : Nat} {c : Cm} {v : Value} {t : TypeId}
theorem s_(h:w.heap[b]? =some (aC (aL c v) t)) (k:Nat) (x:Value) {a:Cm} {d:Value} (e:(aL c v).set k x=aL a d):(w.setCell ⟨b,k,none⟩ x).heap[b]? =some (aC (aL a d) t):=by
 rw[fC w b k _ t x h,<-e];simp
theorem CP(h:HB w b (aL c v) t) (g:aJ):HB (w.setCell (aD b 33) (.string g)) b (aL { c with group:=g } v) t:=s_ h 33 _ (by rw[lv _ _ _ _ (aH rfl)];rfl)
theorem JE(h:HB w b (aL c v) t) (n:Int):HB (w.setCell (aD b 34) (.int .i64 n)) b (aL { c with version:=n } v) t:=s_ h 34 _ (by rw[lv _ _ _ _ (aH rfl)];rfl)
theorem QL(h:HB w b (aL c v) t) (m:Bool):HB (w.setCell (aD b 35) (.bool m)) b (aL { c with moderated:=m } v) t:=s_ h 35 _ (by rw[lv _ _ _ _ (aH rfl)];rfl)
theorem IW(h:HB w b (aL c v) t) (a:Value):HB (w.setCell (aD b 36) a) b (aL c a) t:=s_ h 36 _ (by rw[lv _ _ _ _ (aH rfl)];rfl)
theorem LE(h:HB w b (aL c v) t) (g:aJ):HB (w.setCell (aD b 37) (.string g)) b (aL { c with text:=g } v) t:=s_ h 37 _ (by rw[lv _ _ _ _ (aH rfl)];rfl)
theorem VT(h:HB w b (aL c v) t) (n:Int):HB (w.setCell (aD b 38) (.int .i64 n)) b (aL { c with number:=n } v) t:=s_ h 38 _ (by rw[lv _ _ _ _ (aH rfl)];rfl)
theorem ee{cs:bF}(h:HB w b cs t) (k:Nat):w.frozen? (aD b k)=false:=by simp[World.frozen?,h]
end
end
def wl(n:Nat)(p:PS):PS×Cm:=(((p.groupP n).1.numP n 0 1000000).1,{ aV 4 with group:=bs (p.groupP n).2,version:=((p.groupP n).1.numP n 0 1000000).2 })
def tZ(b:Nat)(s:aJ)(p:PS)(w:aB)(c:Cm)(e:Ending)(w':aB):Prop:=∃a n k,e=.returned (aE (aL c (.slice a n k)))/\eR w' (.slice a n k) c.mods/\(∀x,a=some x->w.heap.size<=x.block)/\ec w' b s p/\w.grownBy w' (some b)
def Pv(b:Nat)(s:aJ)(p:PS)(w:aB)(h:ec w b s p)(z:dH (bl s) p)(hs:s.size<=1000000)(V:ff w)(W:4<b):
  Calls prog 260 #[bZ b] w (tZ b s (wl s.size p).1 w (wl s.size p).2):=by
 have hz:=h.facts.2.2.2.2.2.2;have K:=((Gr.refl w).alloc (aC (aL (aV 0) bB) 87)).alloc (aC (aL (aV 4) bB) 87);have HG:=aA (Fv b s p _ (h.gr K) z hs (V.gr K) W);have B0:=aA (pg w (aC (aL (aV 0) bB) 87) (aC (aL (aV 4) bB) 87));have B1:=aA (lh w (aC (aL (aV 0) bB) 87) (aC (aL (aV 4) bB) 87));have G0:=aA (dW (row:=some b) K);have HE:=aA V;have F:=aA (z.group s.size);have HR:Hid (wl s.size p=(((p.groupP s.size).1.numP s.size 0 1000000).1,{ aV 4 with group:=bs (p.groupP s.size).2,version:=((p.groupP s.size).1.numP s.size 0 1000000).2 })):=rfl;generalize p.groupP s.size=q at*
 obtain⟨p1,g⟩:=q;simp only at HG HR F;go_in;go_wp2_with fail;refine HG.mono ?_;rintro e L ⟨rfl,h1,d⟩;have G:=eH d B0 (by simp;omega);have c:=eH d B1 (by simp;omega);have f1:∀k,L.frozen? (aD (w.heap.size+1) k)=false:=fun k=>by simp[World.frozen?,c]
 have J:=f1 33;obtain⟨U,l,I,m,n,r,t,u,r1,q1,D,B,E,C,r0,Z,z1⟩:=iX c;have H1:=aA h1;have P:=aA (dG G0 d);have N:=aA G;have O:=aA c;go_wp2_with fail;have k1:=CP O (bs g);have k0:=(cG L (aD (w.heap.size+1) 33) w.heap.size (.string (bs g)) (by show w.heap.size≠w.heap.size+1;omega)).trans N;have h2:=H1.other (cG L (aD (w.heap.size+1) 33) b (.string (bs g)) (by show b≠w.heap.size+1;omega));have y:=vo P (k:=w.heap.size+1) (o:=33) (by omega) (.string (bs g));generalize L.setCell (aD (w.heap.size+1) 33) (.string (bs g))=W2 at*
 have HN:=aA (Fi b s p1 0 1000000 W2 h2 F hs (HE.grown y W) W);have Q:=aA y;have T:=aA k1;have S:=aA k0;refine HN.mono ?_;rintro e w3 ⟨rfl,h3,f⟩;have c:=eH f T (by simp;omega);have G:=eH f S (by simp;omega);have a1:=ee c 34;obtain⟨U,l,I,m,n,r,t,u,r1,q1,D,B,E,C,r0,Z,z1⟩:=iX c;have H3:=aA h3;have R:=aA (dG Q f);generalize p1.numP s.size 0 1000000=q at*
 obtain⟨p2,j⟩:=q;have H:=JE c j;have a:=(cG w3 (aD (w.heap.size+1) 34) w.heap.size (.int .i64 j) (by show w.heap.size≠w.heap.size+1;omega)).trans G;have h4:=aA (H3.other (cG w3 (aD (w.heap.size+1) 34) b (.int .i64 j) (by show b≠w.heap.size+1;omega)));have X:=aA (vo R (k:=w.heap.size+1) (o:=34) (by omega) (.int .i64 j));obtain⟨-,-,-,-,-,-,-,-,-,-,-,-,-,-,a3,a2,a4⟩:=iX H;have f0:=bE a 0 56;have u0:=aP a 0 56 (by rw[cA];decide);have M:=aA a;go_wp2_with fail;have hw:=bO (cs:=aL { aV 4 with group:=bs g,version:=j } bB) M (by rw[cA,cA]);have h5:=h4.other (cD (b:=w.heap.size) (i:=b) (by omega) (aL { aV 4 with group:=bs g,version:=j } bB) 0 _);have Y:=ko (b:=w.heap.size) (aU _) (aL { aV 4 with group:=bs g,version:=j } bB) 0 _ X;refine bI (v:=aE (aL { aV 4 with group:=bs g,version:=j } bB)) (dY rfl _ _ w.heap.size _ _ _ _ rfl hw underlying87 rfl (by rw[bQ,cA];kernel_rfl)) rfl ?_;rw[HR.out];exact⟨none,0,0,rfl,jU _,(fun x hx=>by cases hx),h5,Y⟩
section
theorem LC(s t:aJ):(s==t)=true↔s=t:=by
 obtain⟨x⟩:=s;obtain⟨y⟩:=t;show(x==y)=true↔_;rw[lu];exact⟨fun h=>by rw[h],fun h=>by injection h⟩
theorem GR{s t:aJ}(h:s≠t):(s==t)=false:=by
 cases e:s==t with
 |false=>rfl
 |true=>exact absurd ((LC s t).1 e) h
def l5(L:List (aJ×Value))(n:Nat):List MapEntry:=(L.zipIdx n).map fun x=>{ key:=.string x.1.1,val:=x.1.2,born:=x.2 }
theorem Js(k:aJ)(v:Value)(L:List (aJ×Value))(n:Nat):l5 ((k,v)::L) n={ key:=.string k,val:=v,born:=n }::l5 L (n+1):=by simp[l5,List.zipIdx_cons]
theorem abs(L:List (aJ×Value))(k:aJ)(v:Value)(n:Nat):l5 (L++[(k,v)]) n=l5 L n++[{ key:=.string k,val:=v,born:=n+L.length }]:=by
 simp[l5,List.zipIdx_append]
theorem CC:∀(L:List (aJ×Value)) (s:aJ) (n i:Nat),(∀e∈L,e.1≠s)->Instr.findNow .string (.string s) (l5 L n) i=some none
 |[],_,_,_,_=>rfl
 |(k,v)::L,s,n,i,h=>by
  have b:(s==k)=false:=GR fun e=>h (k,v) (by simp) e.symm;rw[Js,Instr.findNow];simp only[Instr.sameNow,b];exact CC L s (n+1) (i+1) (fun e a=>h e (by simp[a]))
theorem JT:∀(L:List (aJ×Value)) (s:aJ) (v:Value) (n i:Nat),(s,v)∈L->(L.map (·.1)).Nodup->∃j,Instr.findNow .string (.string s) (l5 L n) i=some (some (j,v))
 |[],_,_,_,_,h,_=>by cases h
 |(k,u)::L,s,v,n,i,h,hn=>by
  rw[Js,Instr.findNow];by_cases a:s=k
  .subst a
   have:(s==s)=true:=(LC s s).2 rfl;simp only[Instr.sameNow,this];rcases pc.1 h with e|e
   .injection e with _ e2;rw[e2];exact⟨i,rfl⟩
   .rw[gt,List.nodup_cons]at hn
    exact absurd (Da (f:=(·.1)) e) hn.1
  .have b:(s==k)=false:=GR a
   simp only[Instr.sameNow,b];refine JT L s v (n+1) (i+1) ?_ (List.nodup_cons.1 hn).2;rcases pc.1 h with e|e
   .injection e with e1 _;exact absurd e1 a
   .exact e
section
variable {P : Program} {mty kt et : TypeId} (w : World)
def lF(L:List (aJ×Value)):World:=w.alloc (.map (l5 L 0).toArray L.length)
theorem KW(L:List (aJ×Value)):(lF w L).heap[w.heap.size]? =some (.map (l5 L 0).toArray L.length):=cM w _
theorem N3(g:P.underlying mty=some (.map kt et))(c:P.underlying kt=some .string)(L:List (aJ×Value))(s:aJ)(v:Value)(h:∀e∈L,e.1≠s):
  (Instr.mapUpdate mty (.map (some w.heap.size)) (.string s) v).run P (lF w L)=.ok () (lF w (L++[(s,v)])):=by
 have f:=CC L s 0 0 h;have b:=KW w L;have d:(Instr.checkKey false 10000 kt (.string s)).run P (lF w L)=.ok () (lF w L):=yp (k:=.string s) c (by simp[MapKept.IsKey]) false 9999;have j:({ lF w L with heap:=(lF w L).heap.setIfInBounds w.heap.size (.map ((l5 L 0).toArray.push { key:=.string s,val:=v,born:=L.length }) (L.length+1)) }:aB)=lF w (L++[(s,v)]):=by
  have e:(l5 (L++[(s,v)]) 0).toArray=(l5 L 0).toArray.push { key:=.string s,val:=v,born:=L.length }:=by rw[abs,fB];simp
  unfold lF World.alloc;rw[e,bV,jN];simp only[zk,xd];apply xH;intro i;rw[Io,Ae,Ae];by_cases hi:w.heap.size=i
  .subst hi;simp
  .rw[aF hi,aF (fun e=>hi e.symm),aF (fun e=>hi e.symm)]
 simp only[Instr.mapUpdate,nc,lQ g,nZ,vb b,d];rw[vJ c (a:=none) (by simpa using f)];simp only[nZ];rw[MapKept.run_setObj_map _ b,j]
theorem Tb(i:P.underlying mty=some (.map kt et))(c:P.underlying kt=some .string){W:aB}{r:Nat}{L:List (aJ×Value)}(e:W.heap[r]? =some (.map (l5 L 0).toArray L.length)) (d:(L.map (·.1)).Nodup) (s:aJ) (v:Value) (h:(s,v)∈L):
  (Instr.lookup mty (.map (some r)) (.string s) true).run P W=.ok (.tuple #[v,.bool true]) W:=by
 obtain⟨j,g⟩:=JT L s v 0 0 h d;have f:∀b,(Instr.checkKey b 10000 kt (.string s)).run P W=.ok () W:=fun b=>yp (k:=.string s) c (by simp[MapKept.IsKey]) b 9999;simp only[Instr.lookup,nc,lQ i,nZ,vb e,sA,f];rw[vJ c (a:=some (j,v)) (by simpa using g)];simp
theorem aaZ(i:P.underlying mty=some (.map kt et))(c:P.underlying kt=some .string){W:aB}{r:Nat}{L:List (aJ×Value)}(d:W.heap[r]? =some (.map (l5 L 0).toArray L.length)) (s:aJ) (z:Value) (j:(zeroValue et).run P W=.ok z W) (h:∀e∈L,e.1≠s):
  (Instr.lookup mty (.map (some r)) (.string s) true).run P W=.ok (.tuple #[z,.bool false]) W:=by
 have g:=CC L s 0 0 h;have f:∀b,(Instr.checkKey b 10000 kt (.string s)).run P W=.ok () W:=fun b=>yp (k:=.string s) c (by simp[MapKept.IsKey]) b 9999;simp only[Instr.lookup,nc,lQ i,nZ,vb d,sA,f];rw[vJ c (a:=none) (by simpa using g)];simp[j]
end
end
section
noncomputable def oC:Array Oper:=match Tryz.f223.body with|some (.seq _ (.seq (.region _ o _) _))=>o|_=>#[]
def gM(k:Fin 5):ByteArray:=nE ((k.val:Int)+1)
def pE(k:Fin 5):Nat:=[252,254,256,260,261].getD k.val 0
def pr(k:Fin 5):aJ×Value:=(gM k,.func (.func (pE k)) #[] #[])
theorem EB:∀i j:Fin 5,gM i=gM j->i=j:=by
 intro i j h;have:(gM i).data.toList=(gM j).data.toList:=by rw[h]
 revert this
 revert i j
 have a:∀i j:Fin 5,(gM i).data.toList=(gM j).data.toList->i=j:=by decide+kernel
 intro i j _ h;exact a i j h
def ud(m:Bool)(c:Nat)(a b d e f:Bool):Array Bool:=#[m,decide (1<=c),a,decide (2<=c),b,decide (3<=c),d,decide (4<=c),e,decide (5<=c),f,false,false]
def Ny(m:Bool)(c:Nat)(a b d e f:Bool)(i:Nat):Bool:=
 (i==0&&!m)||(i==2*c+1&&decide (c<5))||(i==2&&m&&!a&&decide (1<=c))||(i==4&&m&&!b&&decide (2<=c))||(i==6&&m&&!d&&decide (3<=c))||(i==8&&m&&!e&&decide (4<=c))||(i==10&&m&&!f&&decide (5<=c))||(i==11&&m&&c==5&&a&&b&&d&&e&&f)
theorem Uw:∀(m:Bool) (c:Fin 6) (a b d e f:Bool),((Region.ready .any oC (ud m c.val a b d e f)).all (Ny m c.val a b d e f)&&!(Region.ready .any oC (ud m c.val a b d e f)).isEmpty)=true:=by decide+kernel
def oy(w:aB)(m:Bool)(c:Nat):Act:=⟨#[.map none,if m then .map (some w.heap.size)else undef,if 1<=c then .string (gM 0)else undef,if 2<=c then .string (gM 1)else undef,if 3<=c then .string (gM 2)else undef,if 4<=c then .string (gM 3)else undef,if 5<=c then .string (gM 4)else undef,undef],[]⟩
def vF(w:aB)(m:Bool)(L:List (Fin 5)):World:=if m then lF w (L.map pr)else w
section
variable {P : Program} {ops : Array Oper} {Q : Exit -> Act -> World -> Prop} {K : Act -> World -> Prop}
theorem yz{i:Nat}{o:Oper}{a:Act}{w:aB}(hi:ops[i]? =some o) (b:o.guard=none) (h:o.wp P a w K Q):wpOp P ops Q i K a w:=by
 have c:Region.wanted o (yielded ops a.tmps)=true:=by simp[Region.wanted,b]
 unfold wpOp;simp only[hi,c,vC];exact .inl h
theorem C_{o:Oper}{a:Act}{w w':aB}{v:Value}(b:(execOp a.eval o).run P w=.ok (.value v) w')(h:K (a.put o.dst v) w'):o.wp P a w K Q:=by
 unfold Oper.wp;rw[b];exact h
theorem Ra{o:Oper}{a:Act}{w w':aB}(b:o.dst=none)(c:(execOp a.eval o).run P w=.ok .skip w')(h:K a w'):o.wp P a w K Q:=by
 unfold Oper.wp;rw[c,Oper.upon_skip,b];exact h
theorem PT{o:Oper}{a:Act}{w:aB}{f:FuncId}{args:Array Value}{v:Value}(d:(execOp a.eval o).run P w=.ok (.enter f args) w)(b:Calls P f args w fun e w'=>e=.returned v/\w=w')(h:K (a.put o.dst v) w):o.wp P a w K Q:=by
 unfold Oper.wp;rw[d,Oper.upon_enter];exact b.mono fun e w' ⟨c,g⟩=>by subst c;subst g;exact h
end
theorem QN:∃o,oC[0]? =some o/\o.dst=some 1/\o.op=.makeMap 324 none/\o.guard=none:=⟨_,rfl,rfl,rfl,rfl⟩
theorem Zp(k:Fin 5):∃o,oC[2*k.val+1]? =some o/\o.dst=some (k.val+2)/\o.op=.call { callee:=.value (.func 251),args:=#[.const (.int .i64 ((k.val:Int)+1))],argTypes:=#[3] }/\o.guard=none:=by
 have:k=0\/k=1\/k=2\/k=3\/k=4:=by omega
 rcases this with rfl|rfl|rfl|rfl|rfl<;>exact⟨_,rfl,rfl,rfl,rfl⟩
theorem Q4(k:Fin 5):∃o,oC[2*k.val+2]? =some o/\o.dst=none/\o.op=.insert 324 (.tmp 1) (.tmp (k.val+2)) (.func (pE k))/\o.guard=none:=by
 have:k=0\/k=1\/k=2\/k=3\/k=4:=by omega
 rcases this with rfl|rfl|rfl|rfl|rfl<;>exact⟨_,rfl,rfl,rfl,rfl⟩
theorem Pq:∃o,oC[11]? =some o/\o.dst=some 7/\o.op=.move (.tmp 1)/\o.guard=none:=⟨_,rfl,rfl,rfl,rfl⟩
theorem Rp:∃o,oC[12]? =some o/\o.dst=some 0/\o.op=.assign (.tmp 7)/\o.guard=none:=⟨_,rfl,rfl,rfl,rfl⟩
def pF(m:Bool)(c:Nat)(L:List (Fin 5)):Array Bool:=ud m c (decide (0∈L)) (decide (1∈L)) (decide (2∈L)) (decide (3∈L)) (decide (4∈L))
def uz(L:List (Fin 5)):Nat:=(if 0∈L then 0 else 1)+(if 1∈L then 0 else 1)+(if 2∈L then 0 else 1)+(if 3∈L then 0 else 1)+(if 4∈L then 0 else 1)
def Ep(w:aB):Act:=((oy w true 5).put (some 7) (.map (some w.heap.size))).put (some 0) (.map (some w.heap.size))
theorem Ek:((3:Fin 5):Nat)=3:=rfl
theorem EH:((4:Fin 5):Nat)=4:=rfl
theorem WB(k:Fin 5)(c:Nat)(L:List (Fin 5)):(pF true c L).setIfInBounds (2*k.val+2) true=pF true c (L++[k]):=by
 have:k=0\/k=1\/k=2\/k=3\/k=4:=by omega
 rcases this with rfl|rfl|rfl|rfl|rfl<;>simp[pF,ud,Ek,EH]
theorem Vc(k:Fin 5)(m:Bool)(L:List (Fin 5)):(pF m k.val L).setIfInBounds (2*k.val+1) true=pF m (k.val+1) L:=by
 have:k=0\/k=1\/k=2\/k=3\/k=4:=by omega
 rcases this with rfl|rfl|rfl|rfl|rfl<;>simp[pF,ud,Ek,EH]
theorem OB(w:aB)(k:Fin 5)(m:Bool):(oy w m k.val).put (some (k.val+2)) (.string (gM k))=oy w m (k.val+1):=by
 have:k=0\/k=1\/k=2\/k=3\/k=4:=by omega
 rcases this with rfl|rfl|rfl|rfl|rfl<;>simp[oy,Act.put,Ek,EH]
theorem abP(w:aB)(k:Fin 5)(c:Nat)(h:k.val<c):(oy w true c).eval (.tmp (k.val+2))=.string (gM k):=by
 have:k=0\/k=1\/k=2\/k=3\/k=4:=by omega
 rcases this with rfl|rfl|rfl|rfl|rfl<;>exact aG h
theorem Zg(k:Fin 5)(L:List (Fin 5))(h:k ∉ L):uz L=uz (L++[k])+1:=by
 have:k=0\/k=1\/k=2\/k=3\/k=4:=by omega
 rcases this with rfl|rfl|rfl|rfl|rfl<;>simp[uz,h]<;>omega
theorem Uy{L:List (Fin 5)}(h:uz L=0):∀k:Fin 5,k∈L:=by
 unfold uz at h;intro k;have a:0∈L:=qi fun q=>by rw[aF q]at h;omega
 have b:1∈L:=qi fun q=>by rw[aF q]at h;omega
 have c:2∈L:=qi fun q=>by rw[aF q]at h;omega
 have d:3∈L:=qi fun q=>by rw[aF q]at h;omega
 have e:4∈L:=qi fun q=>by rw[aF q]at h;omega
 have:k=0\/k=1\/k=2\/k=3\/k=4:=by omega
 rcases this with rfl|rfl|rfl|rfl|rfl<;>assumption
theorem aby(w:aB)(Q:Exit->Act->aB->Prop)(S:∀L:List (Fin 5),L.Nodup->(∀k,k∈L)->Q .normal (Ep w) (lF w (L.map pr))):
  ∀(n:Nat) (m:Bool) (c:Nat) (L:List (Fin 5)),(if m=true then 0 else 1)+(5-c)+uz L=n->c<=5->L.Nodup->(m=false->L=[])->(∀k∈L,k.val<c)->wpAny prog .any oC Q (n+2) (pF m c L) (oy w m c) (vF w m L):=by
 intro n
 induction n with
 |zero=>
  intro m c L s H E J hk;obtain rfl:m=true:=by cases m with|true=>rfl|false=>simp at s
  obtain rfl:c=5:=by simp at s;omega
  have r:=Uy (L:=L) (by simp at s;omega);have G:pF true 5 L=ud true 5 true true true true true:=by unfold pF;simp[r]
  rw[G];obtain⟨o,t,h2,u,x⟩:=Pq;obtain⟨o',V,W,X,Y⟩:=Rp;refine wpAny_all (rs:=[11]) (by kernel_rfl) (by simp) (fun i hi=>?_);rw[sN]at hi;subst hi;refine yz t x (C_ (v:=.map (some w.heap.size)) (w':=lF w (L.map pr)) (by simp[execOp,u,oy,Act.eval,vF]) ?_);rw[h2];refine wpAny_all (rs:=[12]) (by kernel_rfl) (by simp) (fun i hi=>?_);rw[sN]at hi;subst hi;refine yz V Y (C_ (v:=.map (some w.heap.size)) (w':=lF w (L.map pr)) (by simp[execOp,X,oy,Act.eval,Act.put]) ?_);rw[W];exact wpAny_done (by kernel_rfl) (S L E r) 0
 |succ n N=>
  intro m c L s H E J hk;have M:=Uw m ⟨c,by omega⟩ (decide (0∈L)) (decide (1∈L)) (decide (2∈L)) (decide (3∈L)) (decide (4∈L));rw[fH]at M;refine⟨fun Z=>?_,fun i hi=>?_⟩
  .have h2:=M.2
   have F:Region.ready .any oC (ud m c (decide (0∈L)) (decide (1∈L)) (decide (2∈L)) (decide (3∈L)) (decide (4∈L)))=[]:=Z;simp only[F]at h2
   cases h2
  .have R:=gY.1 M.1 i hi
   have d:∀k:Fin 5,m=true->k ∉ L->k.val<c->wpOp prog oC Q (2*k.val+2) (wpAny prog .any oC Q (n+2) ((pF m c L).setIfInBounds (2*k.val+2) true)) (oy w m c) (vF w m L):=by
    rintro k rfl y C;obtain⟨o,t,h2,u,x⟩:=Q4 k;have D:=N3 (P:=prog) w underlying324 underlying9 (L.map pr) (gM k) (.func (.func (pE k)) #[] #[]) (by
     intro e he;obtain⟨j,B,rfl⟩:=iQ.1 he;exact fun q=>y (EB j k q▸B))
    refine yz t x (Ra (w':=lF w ((L++[k]).map pr)) h2 ?_ ?_)
    .have T:(oy w true c).eval (.tmp 1)=.map (some w.heap.size):=rfl
     have U:(oy w true c).eval (.func (pE k))=.func (.func (pE k)) #[] #[]:=rfl;have z:(Instr.mapUpdate 324 (.map (some w.heap.size)) (.string (gM k)) (.func (.func (pE k)) #[] #[])).run prog (vF w true L)=.ok () (lF w ((L++[k]).map pr)):=by
      rw[gD];exact D
     unfold execOp;simp only[u,T,U,abP w k c C,nc,z,nZ,sA]
    .rw[WB]
     exact N true c (L++[k]) (by have:=Zg k L y;simp at s|-;omega) H (by rw[List.nodup_append];exact⟨E,by simp,fun a G b O=>by simp at O;subst O;exact fun q=>y (q▸G)⟩) (fun q=>by cases q) (fun j B=>by rcases mf.1 B with q|q;exact hk j q;simp at q;subst q;exact C)
   have p:∀k:Fin 5,c=k.val->wpOp prog oC Q (2*k.val+1) (wpAny prog .any oC Q (n+2) ((pF m c L).setIfInBounds (2*k.val+1) true)) (oy w m c) (vF w m L):=by
    rintro k rfl;obtain⟨o,t,h2,u,x⟩:=Zp k;refine yz t x (PT (f:=251) (args:=#[.int .i64 ((k.val:Int)+1)]) (v:=.string (gM k)) ?_ (aea _ _) ?_)
    .unfold execOp
     simp[u,resolve,invoke,Deferred.ofValue,Act.eval]
    .rw[h2,Vc,OB]
     exact N m (k.val+1) L (by have:=k.isLt;omega) (by have:=k.isLt;omega) E J (fun j B=>Nat.lt_succ_of_lt (hk j B))
   simp only[Ny,zJ,fH,lu,FX,iK,ou]at R;rcases R with((((((⟨rfl,K⟩|⟨rfl,I⟩)|⟨⟨⟨rfl,h⟩,l⟩,g⟩)|⟨⟨⟨rfl,h⟩,l⟩,g⟩)|⟨⟨⟨rfl,h⟩,l⟩,g⟩)|⟨⟨⟨rfl,h⟩,l⟩,g⟩)|⟨⟨⟨rfl,h⟩,l⟩,g⟩)|⟨⟨⟨⟨⟨⟨⟨rfl,h⟩,g⟩,q0⟩,q1⟩,q2⟩,q3⟩,q4⟩
   .subst K
    obtain rfl:=J rfl;obtain⟨o,t,h2,u,x⟩:=QN;refine yz t x (C_ (v:=.map (some w.heap.size)) (w':=lF w []) (by unfold execOp;simp[u,run_makeMap_plain,vF,lF,l5]) ?_);rw[h2];exact N true c [] (by simp at s|-;omega) H List.nodup_nil (fun _=>rfl) (fun k hk=>by cases hk)
   .exact p ⟨c,I⟩ rfl
   .exact d 0 h l g
   .exact d 1 h l g
   .exact d 2 h l g
   .exact d 3 h l g
   .exact d 4 h l g
   .exfalso
    rw[h,g]at s;simp[uz,q0,q1,q2,q3,q4]at s
theorem ads(w:aB):Ep w=⟨#[.map (some w.heap.size),.map (some w.heap.size),.string (gM 0),.string (gM 1),.string (gM 2),.string (gM 3),.string (gM 4),.map (some w.heap.size)],[]⟩:=by simp[Ep,oy,Act.put]
theorem VM(w:aB):Calls prog 223 #[] w fun e w'=>∃L:List (Fin 5),L.Nodup/\(∀k,k∈L)/\e=.returned (.map (some w.heap.size))/\w'=lF w.drew (L.map pr):=by
 go_in;go_wp2_with fail;refine wp_region_any (by kernel_rfl) ?_;refine aby w.drew _ (fun L b a=>?_) 11 false 0 [] rfl (aH rfl) List.nodup_nil (fun _=>rfl) (fun k hk=>by cases hk);rw[ads];go_wp2_with fail;go_ret;exact⟨L,b,a,rfl,rfl⟩
end
def gn{P:Program}{fn:Func}{p u1 u2:Tmp}{ty:TypeId}(h:fn.results=#[.cell p ty,.tmp u1,.tmp u2])(a:Array Value)(w:aB)(g:Nat)(t:TypeId)(cs:Array Value)(fr:Nat×Nat)(d:TypeDesc)
  (f:a.getD p undef=bZ g) (e:w.heap[g]? =some (.cells cs t fr))
  (i:P.underlying ty=some d) (c:(match d with| .struct _| .array _ _=>true|_=>false)=true) (hi:(P.info? ty).map (·.size)=some cs.size):
  (results fn a).run P w=.ok (.tuple #[.agg cs,a.getD u1 undef,a.getD u2 undef]) w:=by
 have b:a[p]?.getD undef=bZ g:=by simpa using f
 simp[results,h,b,asAddr,uM w g t ty cs fr d e i c hi]
def Hv(w:aB):Calls prog 223 #[] w fun e w'=>∃(L:List (Fin 5)) (r:Nat),((L.map pr).map (·.1)).Nodup/\(∀k,k∈L)/\e=.returned (.map (some r))/\w'.heap[r]? =some (.map (l5 (L.map pr) 0).toArray (L.map pr).length)/\Gr w w':=
 (VM w).mono fun e w' ⟨L,c,a,d,b⟩=>⟨L,w.heap.size,by
  rw[List.Nodup,BI,List.pairwise_map];exact c.imp fun h e=>h (EB _ _ e),a,d,by rw[b];exact KW w.drew _,by rw[b];exact((Gr.refl w).drew).alloc _⟩
def Qe(k:Fin 5):∀args w,(callFunc (pE k) args).run prog w=.ok (.enter (pE k) args) w:=by
 have:k=0\/k=1\/k=2\/k=3\/k=4:=by omega
 rcases this with rfl|rfl|rfl|rfl|rfl
 .exact lV func252 (by kernel_rfl) rfl
 .exact lV func254 (by kernel_rfl) rfl
 .exact lV func256 (by kernel_rfl) rfl
 .exact lV func260 (by kernel_rfl) rfl
 .exact lV func261 (by kernel_rfl) rfl
def yR{P:Program}{w:aB}{b k:Nat}{cs:bF}(g:hasRow w (aD b k) cs.length=true)(f:gz w (aD b k) cs.length=true)(e:cN cs=true):(storeCells (aD b k) cs).run P w=.ok () (w.setCells b k cs):=by
 have d:=run_storeCells_cells (P:=P) b k cs 0 w (fun c a=>by have:=kr.1 g c a;rw[fO]at this;simpa using this) (fun c a=>by have:=tJ.1 f c a;rw[fO]at this;simpa using this) (fun v h=>by simpa using gY.1 e v h);rw[ms]at d;exact d
def ng(n:Nat)(p:PS):PS:=if p.fin<n then p.fail p.fin 5 else p
def jq(n:Nat)(r:PS×Cm):Cm×Nat×Int:=if(ng n r.1).e≠0 then(aV 0,(ng n r.1).at_,(ng n r.1).e)else(r.2,0,0)
def jX(x:Cm×Nat×Int)(w:aB)(e:Ending)(w':aB):Prop:=∃v,e=.returned (.tuple #[aE (aL x.1 v),.int .i64 x.2.1,.int .i64 x.2.2])/\eR w' v x.1.mods/\Gr w w'
def aaN(s:aJ)(w:aB)(k:Fin 5)(v:aT)(ws:List aT)(r:PS×Cm)(a3:dS 32 (bl s)=v::ws)(hk:bs v=gM k)(hs:s.size<=1000)(hE:ff w)(aa:4<w.heap.size)(a9:r.2.mods.length<=1000000)
  (HR:∀(U:aB) (b:Nat),Gr w U->w.heap.size<=b->ec U b s ⟨0,v.length,ws,0,0⟩->Calls prog (pE k) #[bZ b] U (tZ b s r.1 U r.2)):
  Calls prog 191 #[.string s] w (jX (jq s.size r) w):=by
 have G:(Lib.cut (bl s) [32]).1=v:=by rw[L6,a3];rfl
 obtain⟨mx,hm⟩:=hE;have g0:=(Gr.refl w).alloc (aC (aL (aV 0) bB) 87);have a2:=(g0.cell (p:=⟨4,0,none⟩) (ka w _ hm)).trans hm;have I:=aA (Tryz.strings_Cut s ⟨#[32]⟩ mx _ (by omega) a2);have e1:s.data.toList=bl s:=rfl;have e2:(⟨#[32]⟩:aJ).data.toList=[32]:=rfl;rw[e1,e2,G]at I;have B0:=aA (cM w (aC (aL (aV 0) bB) 87));have G0:=aA g0;have Y:=aA HR;have hd:decide (1000<(s.size:Int))=false:=by simp;omega
 generalize(Lib.cut (bl s) [32]).2.1=y at*
 generalize(Lib.cut (bl s) [32]).2.2=z at*
 go_in;go_wp2_with fail;refine I.mono ?_;rintro e w1 ⟨rfl,n1,rfl⟩;have a7:(⟨v.toArray⟩:aJ)=bs v:=rfl;rw[a7];go_wp2_with fail;refine(Hv _).mono ?_;rintro e d ⟨L,rm,hL,F,rfl,H,a1⟩;have hl:=Tb (P:=prog) underlying324 underlying9 H hL (gM k) (.func (.func (pE k)) #[] #[]) (Da (f:=pr) (F k));have g2:=((Gr.refl (w.alloc (aC (aL (aV 0) bB) 87))).drewN n1).trans a1;have b2:=(g2.block (b:=w.heap.size) (by simp)).trans B0;have G2:=aA (G0.trans g2);have a8:w.heap.size<d.heap.size:=(bY.1 b2).1;have ac:(gM k).size=v.length:=by rw[<-hk];rfl
 have B2:=aA (((Gr.refl d).alloc (.cells #[.string s,.int .i64 0,.int .i64 (v.length:Int),.int .i64 0,.int .i64 0] 328)).block a8 |>.trans b2);have P2:Hid (ec (d.alloc (.cells #[.string s,.int .i64 0,.int .i64 (v.length:Int),.int .i64 0,.int .i64 0] 328)) d.heap.size s ⟨0,v.length,ws,0,0⟩):=cM d _;have G3:=aA (G2.alloc (.cells #[.string s,.int .i64 0,.int .i64 (v.length:Int),.int .i64 0,.int .i64 0] 328));have eg:=Qe k;go_wp2_with fail;refine(Y _ _ G3 (by omega) P2).mono ?_;rintro e m ⟨h,j,a,rfl,hv,o,h4,N⟩;have b4:=eH N B2 (by simp;omega);have G4:Gr w m:=G3.grown N (fun q hq=>by cases hq;omega);have C:=bO (w:=m) (cs:=aL r.2 (.slice h j a)) b4 (by rw[cA,cA]);have E:=ec.other (w':=m.setCells w.heap.size 0 (aL r.2 (.slice h j a))) h4 (cD (b:=w.heap.size) (i:=d.heap.size) (by omega) _ 0 m);have V:Hid (Gr w (m.setCells w.heap.size 0 (aL r.2 (.slice h j a)))):=Gr.of_grownBy (ko (aU _) _ 0 m (dW G4));have Z:Hid (eR (m.setCells w.heap.size 0 (aL r.2 (.slice h j a))) (.slice h j a) r.2.mods):=by
  refine bX.keep hv (fun x hx=>cD (b:=w.heap.size) (i:=x.block) ?_ _ 0 m) (by rw[kB];exact aU _);have:=o x hx;simp at this;omega
 have v0:=aP b4 0 56 (by rw[cA];decide);have y0:=bE b4 0 56;have X:Hid (∀x,h=some x->x.block≠w.heap.size):=fun x hx=>by have:=o x hx;simp at this;omega
 by_cases B:r.1.fin<s.size
 .have n:ng s.size r.1=r.1.fail r.1.fin 5:=by unfold ng;rw[aG B]
  have Q:(r.1.fail r.1.fin 5).e≠0:=by unfold PS.fail;split;exact(by decide:(5:Int)≠0);rename_i q;exact fun e=>q ⟨e,by decide⟩
  have g:=aA (show jq s.size r=(aV 0,(r.1.fail r.1.fin 5).at_,(r.1.fail r.1.fin 5).e) by unfold jq;rw[n,aG Q])
  have HF:=aA (mH d.heap.size s r.1 r.1.fin 5 _ E);obtain⟨c0,c1,c2,c3,c4,_,_⟩:=E.facts;have K4:=aA C;generalize r.1.fail r.1.fin 5=l at*
  go_wp2_with fail;refine HF.mono ?_;rintro e c ⟨rfl,J,O⟩;have D:=eH O K4 (by simp;omega);have G6:Hid (Gr w c):=V.grown O (fun q hq=>by cases hq;omega);obtain⟨d0,d1,d2,d3,d4,_,_⟩:=J.facts;have a5:(l.e != 0)=true:=by simp[Q]
  have T:=aP D 0 56 (by rw[cA];decide);have R:=bE D 0 56;have K:(c.drew.cell? (aD (d.heap.size) 3)=some (.int .i64 l.at_)/\c.drew.cell? (aD (d.heap.size) 4)=some (.int .i64 l.e)/\hasRow c.drew (aD (w.heap.size) 0) 56=true/\gz c.drew (aD (w.heap.size) 0) 56=true):=⟨d3,d4,T,R⟩;have h7:=ec.other (w':=c.drew.setCells w.heap.size 0 (aL (aV 0) bB)) (J.gr (Gr.refl c).drew) (cD (b:=w.heap.size) (i:=d.heap.size) (by omega) _ 0 c.drew);have t:=bO (w:=c.drew) (cs:=aL (aV 0) bB) D (by rw[cA,cA]);obtain⟨_,_,_,x3,x4,_,_⟩:=h7.facts;have M:((c.drew.setCells w.heap.size 0 (aL (aV 0) bB)).cell? (aD (d.heap.size) 3)=some (.int .i64 l.at_)/\(c.drew.setCells w.heap.size 0 (aL (aV 0) bB)).cell? (aD (d.heap.size) 4)=some (.int .i64 l.e)/\hasRow (c.drew.setCells w.heap.size 0 (aL (aV 0) bB)) (aD (w.heap.size) 0) 56=true/\gz (c.drew.setCells w.heap.size 0 (aL (aV 0) bB)) (aD (w.heap.size) 0) 56=true):=⟨x3,x4,aP t 0 56 (by rw[cA];decide),bE t 0 56⟩;have K7:=aA t;have a6:Sem.run prog (storeCells (aD (w.heap.size) 0) (aL (aV 0) bB)) c.drew=.ok () (c.drew.setCells w.heap.size 0 (aL (aV 0) bB)):=yR (by rw[cA];exact T) (by rw[cA];exact R) (IV _);have W:Hid (Gr w (c.drew.setCells w.heap.size 0 (aL (aV 0) bB))):=Gr.of_grownBy (ko (aU _) _ 0 c.drew (dW (G6.drew)));go_wp2_with fail
  go_region_held_law (fun u=>u.cell? (aD (d.heap.size) 3)=some (.int .i64 l.at_)/\u.cell? (aD (d.heap.size) 4)=some (.int .i64 l.e)/\hasRow u (aD (w.heap.size) 0) 56=true/\gz u (aD (w.heap.size) 0) 56=true) (first|with_reducible exact K|with_reducible exact M) (fail)
  go_wp2_with fail;refine bI (gn (p:=2) (u1:=3) (u2:=4) rfl _ _ w.heap.size _ _ _ _ rfl K7 underlying87 rfl (by rw[bQ,cA];kernel_rfl)) rfl ?_;rw[g.out];exact⟨bB,rfl,jU _,W⟩
 .have n:ng s.size r.1=r.1:=by unfold ng;rw[aF B]
  have ab:decide (r.1.fin<s.size)=false:=by simp;omega
  by_cases S:r.1.e=0
  .have g:=aA (show jq s.size r=(r.2,0,0) by unfold jq;rw[n,aF (by simp[S])])
   obtain⟨d0,d1,d2,d3,d4,_,_⟩:=E.facts;rw[S]at d4;have T:=aP C 0 56 (by rw[cA];decide);have q0:=(bJ C 0 56 (by rw[cA];decide)).trans (vy r.2 (.slice h j a));have R:=bE C 0 56;have t:=aA (bO (cs:=aL r.2 (.slice h j a)) C rfl);have W:Hid (Gr w ((m.setCells w.heap.size 0 (aL r.2 (.slice h j a))).setCells w.heap.size 0 (aL r.2 (.slice h j a)))):=Gr.of_grownBy (ko (aU _) _ 0 (m.setCells w.heap.size 0 (aL r.2 (.slice h j a))) (dW V));have a4:Hid (eR ((m.setCells w.heap.size 0 (aL r.2 (.slice h j a))).setCells w.heap.size 0 (aL r.2 (.slice h j a))) (.slice h j a) r.2.mods):=by
    refine bX.keep Z (fun x hx=>cD (b:=w.heap.size) (i:=x.block) ?_ _ 0 (m.setCells w.heap.size 0 (aL r.2 (.slice h j a)))) (tN (kB _ _ _ _).symm);exact X x hx
   go_wp2_with fail;refine bI (gn (p:=2) (u1:=3) (u2:=4) rfl _ _ w.heap.size _ _ _ _ rfl t underlying87 rfl (by rw[bQ,cA];kernel_rfl)) rfl ?_;rw[g.out];exact⟨.slice h j a,rfl,a4,W⟩
  .have g:=aA (show jq s.size r=(aV 0,r.1.at_,r.1.e) by unfold jq;rw[n,aG S])
   have a5:(r.1.e != 0)=true:=by simp[S]
   obtain⟨c0,c1,c2,c3,c4,_,_⟩:=E.facts;generalize r.1=l at*
   go_wp2_with fail;have J:=E;have D:=C;have G6:=V;generalize m.setCells w.heap.size 0 (aL r.2 (.slice h j a))=c at*
   obtain⟨d0,d1,d2,d3,d4,_,_⟩:=J.facts;have T:=aP D 0 56 (by rw[cA];decide);have R:=bE D 0 56;have K:(c.drew.cell? (aD (d.heap.size) 3)=some (.int .i64 l.at_)/\c.drew.cell? (aD (d.heap.size) 4)=some (.int .i64 l.e)/\hasRow c.drew (aD (w.heap.size) 0) 56=true/\gz c.drew (aD (w.heap.size) 0) 56=true):=⟨d3,d4,T,R⟩;have h7:=ec.other (w':=c.drew.setCells w.heap.size 0 (aL (aV 0) bB)) (J.gr (Gr.refl c).drew) (cD (b:=w.heap.size) (i:=d.heap.size) (by omega) _ 0 c.drew);have t:=bO (w:=c.drew) (cs:=aL (aV 0) bB) D (by rw[cA,cA]);obtain⟨_,_,_,x3,x4,_,_⟩:=h7.facts;have M:((c.drew.setCells w.heap.size 0 (aL (aV 0) bB)).cell? (aD (d.heap.size) 3)=some (.int .i64 l.at_)/\(c.drew.setCells w.heap.size 0 (aL (aV 0) bB)).cell? (aD (d.heap.size) 4)=some (.int .i64 l.e)/\hasRow (c.drew.setCells w.heap.size 0 (aL (aV 0) bB)) (aD (w.heap.size) 0) 56=true/\gz (c.drew.setCells w.heap.size 0 (aL (aV 0) bB)) (aD (w.heap.size) 0) 56=true):=⟨x3,x4,aP t 0 56 (by rw[cA];decide),bE t 0 56⟩;have K7:=aA t;have a6:Sem.run prog (storeCells (aD (w.heap.size) 0) (aL (aV 0) bB)) c.drew=.ok () (c.drew.setCells w.heap.size 0 (aL (aV 0) bB)):=yR (by rw[cA];exact T) (by rw[cA];exact R) (IV _);have W:Hid (Gr w (c.drew.setCells w.heap.size 0 (aL (aV 0) bB))):=Gr.of_grownBy (ko (aU _) _ 0 c.drew (dW (G6.drew)))
   go_region_held_law (fun u=>u.cell? (aD (d.heap.size) 3)=some (.int .i64 l.at_)/\u.cell? (aD (d.heap.size) 4)=some (.int .i64 l.e)/\hasRow u (aD (w.heap.size) 0) 56=true/\gz u (aD (w.heap.size) 0) 56=true) (first|with_reducible exact K|with_reducible exact M) (fail)
   go_wp2_with fail;refine bI (gn (p:=2) (u1:=3) (u2:=4) rfl _ _ w.heap.size _ _ _ _ rfl K7 underlying87 rfl (by rw[bQ,cA];kernel_rfl)) rfl ?_;rw[g.out];exact⟨bB,rfl,jU _,W⟩
end Go.Proofs.YtjfaogajmoffoaaGreatDoor
