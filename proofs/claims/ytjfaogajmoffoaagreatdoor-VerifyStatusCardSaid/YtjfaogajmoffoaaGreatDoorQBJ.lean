/- Lemmas for VerifyStatus. -/
import Derived.Test.YtjfaogajmoffoaaGreatDoorQBH
import Derived.Test.YtjfaogajmoffoaaGreatDoorQBI
set_option maxRecDepth 100000
set_option maxHeartbeats 16000000
set_option linter.all false
namespace Go.Proofs.YtjfaogajmoffoaaGreatDoor
open Go.RowKit Tryz
section
inductive jk where
 |target|group|version|number|mode|authors|pub
 deriving DecidableEq
def iZ:jk->aT->Int
 | .target,w=>kH w
 | .group,w=>jW w
 | .version,w=>ja 0 1000000 w
 | .number,w=>ja 1 1000 w
 | .mode,w=>if w=kd\/w=nt then 0 else 3
 | .authors,w=>lJ w
 | .pub,w=>fW w
def fJ(c:Cm):jk->aT->Cm
 | .target,w=>{ c with target:=eI w }
 | .group,w=>{ c with group:=bs w }
 | .version,w=>{ c with version:=lR w }
 | .number,w=>{ c with number:=lR w }
 | .mode,w=>{ c with moderated:=decide (w=kd) }
 | .authors,w=>{ c with mods:=oc w }
 | .pub,w=>{ c with height:=k_ w,root:=kP w }
def fT(n:Nat):List jk->Cm->Nat->List aT->(Nat×Int) ⊕ (Cm×Nat×List aT)
 |[],c,f,R=>.inr (c,f,R)
 |t::L,c,f,R=>
  if t=.authors/\c.moderated=false then fT n L c f R
  else match R with
   |[]=>.inl (n,4)
   |w::R=>if iZ t w≠0 then .inl (f+1,iZ t w)else fT n L (fJ c t w) (f+1+w.length) R
def ge(k:Fin 5):List jk:=match k with
 |0=>[.target]
 |1=>[.target,.group]
 |2=>[.group,.version,.mode,.authors]
 |3=>[.group,.version]
 |4=>[.number,.pub]
def ji(k:Fin 5)(s:aT):(Nat×Int) ⊕ (Cm×Nat×List aT)->Cm×Nat×Int
 | .inl (a,e)=>(aV 0,a,e)
 | .inr (c,f,R)=>if R=[]then(c,0,0)else if k≠2 then(aV 0,f,5)else if kT (s.drop (f+1))≠0 then(aV 0,f+1,kT (s.drop (f+1)))else({ c with text:=bs (s.drop (f+1)) },0,0)
def iM(s:aT):Cm×Nat×Int:=
 if 1000<s.length then(aV 0,0,5)else match nA ((dS 32 s).headD [])with
 |some k=>ji k s (fT s.length (ge k) (aV ((k.val:Int)+1)) ((dS 32 s).headD []).length (dS 32 s).tail)
 |none=>(aV 0,0,11)
section
variable (n st f a : Nat) (R : List aT) (e : Int)
theorem Am(h:e≠0):(⟨st,f,R,a,e⟩:PS).next n=(⟨st,f,R,a,e⟩,[],false):=by unfold PS.next;rw[aG h]
theorem ML(h:e≠0):(⟨st,f,R,a,e⟩:PS).groupP n=(⟨st,f,R,a,e⟩,[]):=by unfold PS.groupP;rw[Am n st f a R e h,aF (by simp)]
theorem Bv(lo hi:Int)(h:e≠0):(⟨st,f,R,a,e⟩:PS).numP n lo hi=(⟨st,f,R,a,e⟩,0):=by unfold PS.numP;rw[Am n st f a R e h,aF (by simp)]
theorem I8(h:e≠0):(⟨st,f,R,a,e⟩:PS).pubP n=(⟨st,f,R,a,e⟩,0,aQ):=by unfold PS.pubP;rw[Am n st f a R e h,aF (by simp)]
theorem zw(h:e≠0):(⟨st,f,R,a,e⟩:PS).modeP n=(⟨st,f,R,a,e⟩,false,[]):=by unfold PS.modeP;rw[Am n st f a R e h,aG (.inl rfl)]
theorem sT(s:aT)(h:e≠0):(⟨st,f,R,a,e⟩:PS).restP s=(⟨st,f,R,a,e⟩,[]):=by unfold PS.restP;rw[aG (.inl h)]
theorem ph(c:Cm)(h:e≠0):jq n (⟨st,f,R,a,e⟩,c)=(aV 0,a,e):=by
 have b:ng n ⟨st,f,R,a,e⟩=⟨st,f,R,a,e⟩:=by
  unfold ng PS.fail;split
  .rw[aF (fun q=>h q.1)]
  .rfl
 unfold jq;rw[b,aG h]
theorem t8(h:e≠0)(x:Nat):(⟨st,f,R,a,0⟩:PS).fail x e=⟨st,f,R,x,e⟩:=by unfold PS.fail;rw[aG ⟨rfl,h⟩]
theorem MD(c:Cm):jq n (⟨st,n,R,a,0⟩,c)=(c,0,0):=by
 unfold jq ng;rw[aF (Nat.lt_irrefl n),aF (by simp)]
end
section
variable (n st f a : Nat) (w : aT) (R : List aT)
theorem Ik(h:kH w≠0):(⟨st,f,w::R,a,0⟩:PS).targetP n=(⟨f+1,f+1+w.length,R,f+1,kH w⟩,eI w):=by
 unfold PS.targetP;rw[ob,aG rfl];simp only[t8 _ _ _ _ _ h]
theorem CI(h:jW w≠0):(⟨st,f,w::R,a,0⟩:PS).groupP n=(⟨f+1,f+1+w.length,R,f+1,jW w⟩,w):=by
 unfold PS.groupP;rw[ob,aG rfl];simp only[t8 _ _ _ _ _ h]
theorem Fg(lo hi:Int)(h:ja lo hi w≠0):(⟨st,f,w::R,a,0⟩:PS).numP n lo hi=(⟨f+1,f+1+w.length,R,f+1,ja lo hi w⟩,lR w):=by
 unfold PS.numP;rw[ob,aG rfl];simp only[t8 _ _ _ _ _ h]
theorem Yz(h:fW w≠0):(⟨st,f,w::R,a,0⟩:PS).pubP n=(⟨f+1,f+1+w.length,R,f+1,fW w⟩,k_ w,kP w):=by
 unfold PS.pubP;rw[ob,aG rfl];simp only[t8 _ _ _ _ _ h]
theorem YR(h:lJ w≠0):(⟨st,f,w::R,a,0⟩:PS).autsP n=(⟨f+1,f+1+w.length,R,f+1,lJ w⟩,true,oc w):=by
 unfold PS.autsP;rw[ob,aG rfl];simp only[t8 _ _ _ _ _ h]
theorem adr:(⟨st,f,[],a,0⟩:PS).autsP n=(⟨st,f,[],n,4⟩,true,[]):=by unfold PS.autsP;rw[vM,aF (by simp)]
theorem aaS:(⟨st,f,[],a,0⟩:PS).modeP n=(⟨st,f,[],n,4⟩,false,[]):=by unfold PS.modeP;rw[vM,aG (.inl rfl)]
theorem adg(b:w≠kd)(c:w≠nt):(⟨st,f,w::R,a,0⟩:PS).modeP n=(⟨f+1,f+1+w.length,R,f+1,3⟩,false,[]):=by
 unfold PS.modeP;rw[ob,aF (by rintro(h|h);cases h;exact c h),aG b];simp only[t8 _ _ _ _ 3 (by decide:(3:Int)≠0)]
theorem Xt:(⟨st,f,kd::R,a,0⟩:PS).modeP n=(⟨f+1,f+1+kd.length,R,a,0⟩:PS).autsP n:=by
 unfold PS.modeP;rw[ob,aF (by simp[nt,kd]),aF (by simp)]
end
theorem Jo{s:aT}{d f a:Nat}{R:List aT}{e:Int}(h:dH s ⟨d,f,R,a,e⟩):(R=[]->f=s.length)/\(R≠[]->f<s.length):=by
 have b:=h.end_;have c:=h.1;simp only at b c;exact⟨fun e=>b.1 e,fun e=>Nat.lt_of_le_of_ne c (fun q=>e (b.2 q))⟩
theorem yt{s:aT}{d f a:Nat}{R:List aT}(h:dH s ⟨d,f,R,a,0⟩)(c:Cm):jq s.length (⟨d,f,R,a,0⟩,c)=if R=[]then(c,0,0)else(aV 0,f,5):=by
 obtain⟨e,g⟩:=Jo h;by_cases b:R=[]
 .rw[aG b,e b,MD]
 .rw[aF b,abQ _ _ _ _ _ _ (g b)]
section
variable {s : aT} {f : Nat} {R : List aT}
theorem acd(h:dH s ⟨0,f,R,0,0⟩):ji 0 s (fT s.length (ge 0) (aV 1) f R)=jq s.length (vi s.length ⟨0,f,R,0,0⟩):=by
 unfold vi ge
 cases R with
 |nil=>rw[NA,pJ];rfl
 |cons w R=>
  by_cases a:kH w=0
  .have b:=h.target s.length
   rw[Mv _ _ _ _ _ _ a]at b|-
   rw[yt b];show ji 0 s (if kH w≠0 then _ else _)=_;rw[aF (fun q=>q a)];rfl
  .rw[Ik _ _ _ _ _ _ a,ph _ _ _ _ _ _ _ a]
   show ji 0 s (if kH w≠0 then _ else _)=_;rw[aG a];rfl
theorem Y2(h:dH s ⟨0,f,R,0,0⟩):ji 1 s (fT s.length (ge 1) (aV 2) f R)=jq s.length (vU s.length ⟨0,f,R,0,0⟩):=by
 unfold vU ge
 cases R with
 |nil=>rw[NA];simp only;rw[ML _ _ _ _ _ _ (aH rfl),pJ];rfl
 |cons w R=>
  by_cases b:kH w=0
  .have c:=h.target s.length
   rw[Mv _ _ _ _ _ _ b]at c|-
   simp only at c|-
   have g:fT s.length [.target,.group] (aV 2) f (w::R)=fT s.length [.group] (fJ (aV 2) .target w) (f+1+w.length) R:=by
    show(if kH w≠0 then _ else _)=_;rw[aF (fun q=>q b)]
   rw[g]
   cases R with
   |nil=>rw[FI,pJ];rfl
   |cons d R=>
    by_cases a:jW d=0
    .have e:=c.group s.length
     rw[Dc _ _ _ _ _ _ a]at e|-
     rw[yt e];show ji 1 s (if jW d≠0 then _ else _)=_;rw[aF (fun q=>q a)];rfl
    .rw[CI _ _ _ _ _ _ a,ph _ _ _ _ _ _ _ a]
     show ji 1 s (if jW d≠0 then _ else _)=_;rw[aG a];rfl
  .rw[Ik _ _ _ _ _ _ b]
   simp only;rw[ML _ _ _ _ _ _ b,ph _ _ _ _ _ _ _ b];show ji 1 s (if kH w≠0 then _ else _)=_;rw[aG b];rfl
theorem YY(h:dH s ⟨0,f,R,0,0⟩):ji 3 s (fT s.length (ge 3) (aV 4) f R)=jq s.length (wl s.length ⟨0,f,R,0,0⟩):=by
 unfold wl ge
 cases R with
 |nil=>rw[FI];simp only;rw[Bv _ _ _ _ _ _ _ _ (aH rfl),pJ];rfl
 |cons w R=>
  by_cases b:jW w=0
  .have c:=h.group s.length
   rw[Dc _ _ _ _ _ _ b]at c|-
   simp only at c|-
   have g:fT s.length [.group,.version] (aV 4) f (w::R)=fT s.length [.version] (fJ (aV 4) .group w) (f+1+w.length) R:=by
    show(if jW w≠0 then _ else _)=_;rw[aF (fun q=>q b)]
   rw[g]
   cases R with
   |nil=>rw[Dm,pJ];rfl
   |cons d R=>
    by_cases a:ja 0 1000000 d=0
    .have e:=c.num s.length 0 1000000
     rw[EX _ _ _ _ _ _ _ _ a]at e|-
     rw[yt e];show ji 3 s (if ja 0 1000000 d≠0 then _ else _)=_;rw[aF (fun q=>q a)];rfl
    .rw[Fg _ _ _ _ _ _ _ _ a,ph _ _ _ _ _ _ _ a]
     show ji 3 s (if ja 0 1000000 d≠0 then _ else _)=_;rw[aG a];rfl
  .rw[CI _ _ _ _ _ _ b]
   simp only;rw[Bv _ _ _ _ _ _ _ _ b,ph _ _ _ _ _ _ _ b];show ji 3 s (if jW w≠0 then _ else _)=_;rw[aG b];rfl
theorem Yw(h:dH s ⟨0,f,R,0,0⟩):ji 4 s (fT s.length (ge 4) (aV 5) f R)=jq s.length (vT s.length ⟨0,f,R,0,0⟩):=by
 unfold vT ge
 cases R with
 |nil=>rw[Dm];simp only;rw[I8 _ _ _ _ _ _ (aH rfl),pJ];rfl
 |cons w R=>
  by_cases b:ja 1 1000 w=0
  .have c:=h.num s.length 1 1000
   rw[EX _ _ _ _ _ _ _ _ b]at c|-
   simp only at c|-
   have g:fT s.length [.number,.pub] (aV 5) f (w::R)=fT s.length [.pub] (fJ (aV 5) .number w) (f+1+w.length) R:=by
    show(if ja 1 1000 w≠0 then _ else _)=_;rw[aF (fun q=>q b)]
   rw[g]
   cases R with
   |nil=>rw[adL,pJ];rfl
   |cons d R=>
    by_cases a:fW d=0
    .have e:=c.pub s.length
     rw[aed _ _ _ _ _ _ a]at e|-
     rw[yt e];show ji 4 s (if fW d≠0 then _ else _)=_;rw[aF (fun q=>q a)];rfl
    .rw[Yz _ _ _ _ _ _ a,ph _ _ _ _ _ _ _ a]
     show ji 4 s (if fW d≠0 then _ else _)=_;rw[aG a];rfl
  .rw[Fg _ _ _ _ _ _ _ _ b]
   simp only;rw[I8 _ _ _ _ _ _ b,ph _ _ _ _ _ _ _ b];show ji 4 s (if ja 1 1000 w≠0 then _ else _)=_;rw[aG b];rfl
theorem Nl{b f a:Nat}{R:List aT}(h:dH s ⟨b,f,R,a,0⟩)(g:aT->Cm):
  jq s.length (((⟨b,f,R,a,0⟩:PS).restP s).1,g ((⟨b,f,R,a,0⟩:PS).restP s).2)=if R=[]then(g [],0,0)else if kT (s.drop (f+1))≠0 then(aV 0,f+1,kT (s.drop (f+1)))else(g (s.drop (f+1)),0,0):=by
 by_cases c:R=[]
 .have e:(⟨b,f,R,a,0⟩:PS).restP s=(⟨b,f,R,a,0⟩,[]):=by unfold PS.restP;rw[aG (.inr c)]
  rw[e,aG c,yt h,aG c]
 .have e:(⟨b,f,R,a,0⟩:PS).restP s=((⟨f+1,s.length,[],a,0⟩:PS).fail (f+1) (kT (s.drop (f+1))),s.drop (f+1)):=by
   unfold PS.restP;rw[aF (by rintro(q|q);exact q rfl;exact c q)]
  rw[e,aF c];by_cases d:kT (s.drop (f+1))=0
  .rw[aF (fun q=>q d),d,m9,MD]
  .rw[aG d,t8 _ _ _ _ _ d,ph _ _ _ _ _ _ _ d]
theorem Wa(n:Nat)(p:PS):wv n s p=(((((p.groupP n).1.numP n 0 1000000).1.modeP n).1.restP s).1,(fun x:aT=>{ aV 3 with group:=bs (p.groupP n).2,version:=((p.groupP n).1.numP n 0 1000000).2,moderated:=(((p.groupP n).1.numP n 0 1000000).1.modeP n).2.1,mods:=(((p.groupP n).1.numP n 0 1000000).1.modeP n).2.2,text:=bs x }) ((((p.groupP n).1.numP n 0 1000000).1.modeP n).1.restP s).2):=rfl
theorem Qj(h:dH s ⟨0,f,R,0,0⟩):ji 2 s (fT s.length (ge 2) (aV 3) f R)=jq s.length (wv s.length s ⟨0,f,R,0,0⟩):=by
 rw[Wa];unfold ge
 cases R with
 |nil=>
  rw[FI];simp only;rw[Bv _ _ _ _ _ _ _ _ (aH rfl)];simp only;rw[zw _ _ _ _ _ _ (aH rfl)];simp only;rw[sT _ _ _ _ _ _ (aH rfl),pJ];rfl
 |cons w R=>
  by_cases d:jW w=0
  .have l:=h.group s.length
   rw[Dc _ _ _ _ _ _ d]at l|-
   simp only at l|-
   have p:fT s.length [.group,.version,.mode,.authors] (aV 3) f (w::R)=fT s.length [.version,.mode,.authors] (fJ (aV 3) .group w) (f+1+w.length) R:=by
    show(if jW w≠0 then _ else _)=_;rw[aF (fun q=>q d)]
   rw[p]
   cases R with
   |nil=>
    rw[Dm];simp only;rw[zw _ _ _ _ _ _ (aH rfl)];simp only;rw[sT _ _ _ _ _ _ (aH rfl),pJ];rfl
   |cons b R=>
    by_cases a:ja 0 1000000 b=0
    .have m:=l.num s.length 0 1000000
     rw[EX _ _ _ _ _ _ _ _ a]at m|-
     simp only at m|-
     have r:fT s.length [.version,.mode,.authors] (fJ (aV 3) .group w) (f+1+w.length) (b::R)=fT s.length [.mode,.authors] (fJ (fJ (aV 3) .group w) .version b) (f+1+w.length+1+b.length) R:=by
      show(if ja 0 1000000 b≠0 then _ else _)=_;rw[aF (fun q=>q a)]
     rw[r];generalize f+1+w.length+1=j at*
     cases R with
     |nil=>
      rw[aaS];simp only;rw[sT _ _ _ _ _ _ (aH rfl),pJ];rfl
     |cons g R=>
      have e:=m.mode s.length;by_cases o:g=nt
      .subst o
       rw[aa5]at e|-
       simp only at e|-
       rw[Nl e (fun x:aT=>{ aV 3 with group:=bs w,version:=lR b,moderated:=false,mods:=[],text:=bs x })];rfl
      .by_cases n:g=kd
       .subst n
        rw[Xt]at e|-
        cases R with
        |nil=>
         rw[adr];simp only;rw[sT _ _ _ _ _ _ (aH rfl),pJ];rfl
        |cons i R=>
         by_cases c:lJ i=0
         .rw[abt _ _ _ _ _ _ c]at e|-
          simp only at e|-
          rw[Nl e (fun x:aT=>{ aV 3 with group:=bs w,version:=lR b,moderated:=true,mods:=oc i,text:=bs x })];have k:fT s.length [.mode,.authors] (fJ (fJ (aV 3) .group w) .version b) (j+b.length) (kd::i::R)=.inr (fJ (fJ (fJ (fJ (aV 3) .group w) .version b) .mode kd) .authors i,j+b.length+1+kd.length+1+i.length,R):=by
           show(if lJ i≠0 then _ else _)=_;rw[aF (fun q=>q c)];rfl
          rw[k];rfl
         .rw[YR _ _ _ _ _ _ c]
          simp only;rw[sT _ _ _ _ _ _ c,ph _ _ _ _ _ _ _ c];show ji 2 s (if lJ i≠0 then _ else _)=_;rw[aG c];rfl
       .rw[adg _ _ _ _ _ _ n o]
        simp only;rw[sT _ _ _ _ _ _ (aH rfl),ph _ _ _ _ _ _ _ (aH rfl)];have k:fT s.length [.mode,.authors] (fJ (fJ (aV 3) .group w) .version b) (j+b.length) (g::R)=.inl (j+b.length+1,3):=by
         have t:iZ .mode g=3:=aF (show ¬(g=kd\/g=nt) by rintro(q|q);exact n q;exact o q);show(if iZ .mode g≠0 then _ else _)=_;rw[t];rfl
        rw[k];rfl
    .rw[Fg _ _ _ _ _ _ _ _ a]
     simp only;rw[zw _ _ _ _ _ _ a];simp only;rw[sT _ _ _ _ _ _ a,ph _ _ _ _ _ _ _ a];show ji 2 s (if ja 0 1000000 b≠0 then _ else _)=_;rw[aG a];rfl
  .rw[CI _ _ _ _ _ _ d]
   simp only;rw[Bv _ _ _ _ _ _ _ _ d];simp only;rw[zw _ _ _ _ _ _ d];simp only;rw[sT _ _ _ _ _ _ d,ph _ _ _ _ _ _ _ d];show ji 2 s (if jW w≠0 then _ else _)=_;rw[aG d];rfl
end
theorem Xs(s:aT):iM s=oj s:=by
 unfold iM oj;by_cases d:1000<s.length
 .rw[aG d,aG d]
 .rw[aF d,aF d]
  obtain⟨e,f,c⟩:∃e f,dS 32 s=e::f:=by
   cases h:dS 32 s with
   |nil=>exact absurd h (uK 32 s)
   |cons a l=>exact⟨a,l,rfl⟩
  rw[c];simp only[Gf,Kc]
  cases hk:nA e with
  |none=>rfl
  |some k=>
   have b:=dH.start c;have:k=0\/k=1\/k=2\/k=3\/k=4:=by omega
   rcases this with rfl|rfl|rfl|rfl|rfl
   .exact acd b
   .exact Y2 b
   .exact Qj b
   .exact YY b
   .exact Yw b
end
def pO(s:aT):Value:=.int .i64 (if iB s=true then(fS s:Int)else-1)
def L7(s:aJ)(w:aB):Calls prog 68 #[.string s] w fun e w'=>e=.returned (pO (bl s))/\w=w':=by
 have a:=bN s;by_cases n:s.size=0
 .have y:bl s=[]:=fQ.1 (by rw[a];exact n)
  have L:s.toList.isEmpty=true:=by rw[hI,y];rfl
  have b:=aA (show pO (bl s)=.int .i64 (-1) by rw[y];rfl)
  go_in;go_wp2_with fail;go_ret;exact⟨by rw[b.out];rfl,rfl⟩
 .have O:0<s.size:=by omega
  have L:s.toList.isEmpty=false:=by rw[hI,tp];intro h;rw[h]at a;simp at a;omega
  by_cases S:7<s.size
  .have b:Hid (pO (bl s)=.int .i64 (-1)):=by
    have:iB (bl s)=false:=by unfold iB;rw[a];simp;omega
    show _=_;unfold pO;rw[this];rfl
   have K:decide (7<(s.size:Int))=true:=by simp;omega
   go_in;go_wp2_with fail;go_ret;exact⟨by rw[b.out];rfl,rfl⟩
  .have K:decide (7<(s.size:Int))=false:=by simp;omega
   have B:=aA (IQ s O);by_cases f:1<s.size/\s[0].toNat=48
   .have b:Hid (pO (bl s)=.int .i64 (-1)):=by
     have:iB (bl s)=false:=by
      unfold iB;rw[a,B.out];have:(s[0]==48)=true:=by rw[lu];exact lP.1 f.2
      rw[this];simp[f.1]
     show _=_;unfold pO;rw[this];rfl
    have u:decide (1<(s.size:Int))=true:=by simp;omega
    have T:((s[0].toNat:Int)==48)=true:=by rw[f.2];rfl
    go_in;go_wp2_with fail;go_ret;exact⟨by rw[b.out];rfl,rfl⟩
   .have p:Hid (iB (bl s)=(bl s).all gH):=by
     show _=_;unfold iB;rw[a,B.out];have E:decide (1<=s.size)=true:=by simp;omega
     have F:decide (s.size<=7)=true:=by simp;omega
     have G:(decide (1<s.size)&&s[0]==48)=false:=by
      rw[zt];by_cases q:1<s.size
      .right;rw[dI];intro e;exact f ⟨q,by rw[e];rfl⟩
      .left;simpa using q
     rw[E,F,G];rfl
    have d:((s[0].toNat:Int)==48)=false\/(decide (1<(s.size:Int))=false/\((s[0].toNat:Int)==48)=true):=by
     by_cases q:s[0].toNat=48
     .right;refine⟨by simp;omega,by rw[q];rfl⟩
     .left;rw[dI];omega
    have j:=aA a;rcases d with t|⟨u,t⟩
    all_goals
     go_in;go_wp2_with fail
     go_loop [3,4,22,23,24,25,26,27,28,29,30,31,32,33,34,35,36,37,38,39,40,41,42,43,44,45] (fun R i _ _ _ _ _ _ _ _ _ _ _ _ _ _ _ _ _ _ _ _ _ _ _ _=>∃k:Nat,k<=s.size/\i=.int .i64 k/\R=.int .i64 (fS ((bl s).take k):Int)/\Hid (((bl s).take k).all gH=true)) (fun _ i _ _ _ _ _ _ _ _ _ _ _ _ _ _ _ _ _ _ _ _ _ _ _ _=>s.size-(intOf i).toNat)
     .exact⟨0,bW _,rfl,rfl,rfl⟩
     .
      obtain⟨k,U,rfl,rfl,v⟩:=hrel;by_cases z:k<s.size
      .have r:=aA (J_ s k z)
       have g:Hid (((bl s).take (k+1)).all gH=false->(bl s).all gH=false):=Mj _ _;have x:(k:Int)<(s.size:Int):=by omega
       have M:(0:Int)<=(k:Int):=by omega
       have l:=L_ ((bl s).take k) v.out;have H:fS ((bl s).take k)<10000000:=dQ l (show 10^((bl s).take k).length<=10^7 from nR (aH rfl) (by rw[dP];omega));have I:=s[k].toNat_lt;generalize N:fS ((bl s).take k)=m at*
       have D:Hid (fS ((bl s).take (k+1))=10*m+(s[k].toNat-48)):=r.out.2;have o:Hid (((bl s).take (k+1)).all gH=(((bl s).take k).all gH&&(!decide ((s[k].toNat:Int)<48)&&!decide (57<(s[k].toNat:Int))))):=r.out.1;generalize J:s[k].toNat=c at*
       cases hx:decide ((c:Int)<48)with
       |true=>
        have b:Hid ((bl s).all gH=false):=g.out (by rw[o.out,hx];simp);go_wp2_with fail;go_ret;exact⟨by unfold pO;rw[p.out,b.out];rfl,rfl⟩
       |false=>
        cases hy:decide (57<(c:Int))with
        |true=>
         have b:Hid ((bl s).all gH=false):=g.out (by rw[o.out,hy];simp);go_wp2_with fail;go_ret;exact⟨by unfold pO;rw[p.out,b.out];rfl,rfl⟩
        |false=>
         have b:=aA (show ((bl s).take (k+1)).all gH=true by rw[o.out,hx,hy,v.out];rfl)
         have P:48<=c:=by have:=tm hx;omega
         have Q:c<=57:=by have:=tm hy;omega
         have W:IntKind.i64.wrap (10*(m:Int))=10*(m:Int):=by rw[cV];omega
         have X:IntKind.u8.wrap ((c:Int)-48)=((c-48:Nat):Int):=by rw[gg];omega
         have Y:IntKind.i64.wrap (10*(m:Int)+((c-48:Nat):Int))=((10*m+(c-48):Nat):Int):=by rw[cV];omega
         have Z:IntKind.i64.wrap ((c-48:Nat):Int)=((c-48:Nat):Int):=by rw[cV];omega
         generalize V:c-48=q at*
         go_wp2_with fail
         go_round
         .exact⟨k+1,by omega,by go_num,by rw[D.out];first|rfl|(congr 1;omega),b.out⟩
         .simp[intOf];omega
      .have x:¬(k:Int)<(s.size:Int):=by omega
       have b:Hid ((bl s).take k=bl s):=eq (by rw[j.out];omega);go_wp2_with fail;go_ret;have C:=v.out;rw[b.out]at C;refine⟨?_,rfl⟩;unfold pO;rw[p.out,C,b.out];rfl
def Jn(s:aJ)(f k:Nat):bl (s.extract f k)=((bl s).take k).drop f:=by
 unfold bl;rw[xI,yA,yI,BW]
def kq(s:aJ)(c:UInt8)(k f:Nat)(lo:bP):Prop:=
 if k<=s.size then dS c (bl s)=lo.map bl++dS c ((bl s).drop f)/\c ∉ ((bl s).take k).drop f else dS c (bl s)=lo.map bl
def kq.start(s:aJ)(c:UInt8):kq s c 0 0 []:=by
 unfold kq;rw[aG (bW _)];exact⟨rfl,by simp⟩
def kq.hit{s:aJ}{c:UInt8}{k f:Nat}{lo:bP}(h:kq s c k f lo)(i:f<=k)(g:k<s.size)(e:s[k].toNat=c.toNat):kq s c (k+1) (k+1) (lo++[s.extract f k]):=by
 unfold kq at*
 rw[aG (by omega)]at h|-
 obtain⟨a,b⟩:=h;have e':s[k]=c:=lP.1 e;have d:(bl s).drop f=((bl s).take k).drop f++c::(bl s).drop (k+1):=by
  rw[<-e',<-Et s k g]
  conv=>lhs;rw[<-lq k (bl s)]
  rw[sH (by rw[dP,bN];omega)]
 refine⟨?_,by rw[jn (by rw[dP,bN];omega)];simp⟩;rw[a,d,sV _ b,gD,fl];rw[gt,nI,Jn];rfl
def kq.last{s:aJ}{c:UInt8}{k f:Nat}{lo:bP}(h:kq s c k f lo)(e:k=s.size):kq s c (k+1) (k+1) (lo++[s.extract f k]):=by
 unfold kq at*
 rw[aG (by omega)]at h;rw[aF (by omega)];obtain⟨d,a⟩:=h;have b:(bl s).take k=bl s:=eq (by rw[bN];omega);rw[b]at a;rw[d,sY a,gD,gt,nI,Jn,b]
def kq.miss{s:aJ}{c:UInt8}{k f:Nat}{lo:bP}(h:kq s c k f lo)(g:f<=k)(d:k<s.size)(e:s[k].toNat≠c.toNat):kq s c (k+1) f lo:=by
 unfold kq at*
 rw[aG (by omega)]at h|-
 obtain⟨a,b⟩:=h;refine⟨a,?_⟩;rw[eF (by rw[bN];exact d),sH (by rw[dP,bN];omega)];rw[mf,sN];rintro(q|q)
 .exact b q
 .exact e (by rw[q];rfl)
def kq.stop{s:aJ}{c:UInt8}{k f:Nat}{lo:bP}(h:kq s c k f lo)(a:s.size<k):lo.map bl=dS c (bl s):=by
 unfold kq at h;rw[aF (by omega)]at h;exact h.symm
def MK(s:aJ)(c:UInt8)(z:Int)(M:z=(c.toNat:Int))(w:aB)(T:s.size<=1100):Calls prog 36 #[.string s,.int .u8 z] w fun e w'=>∃l v,e=.returned v/\l.map bl=dS c (bl s)/\fs w' w.heap.size v l/\Gr w w':=by
 subst M;have I:=aA (kq.start s c);generalize t:c.toNat=B at*
 have n:=aA t;clear t;go_in;go_wp2_with fail
 go_loopw [5,6,7] (fun P O i wr=>∃(k f:Nat) (lo:bP),k<=s.size+1/\f<=k/\i=.int .i64 k/\O=.int .i64 f/\lo.length<=k/\Hid (kq s c k f lo)/\Hid (Gr w wr)/\Hid (fs wr w.heap.size P lo)) (fun _ _ i _=>s.size+1-(intOf i).toNat)
 .exact⟨0,0,[],bW _,aU _,rfl,rfl,aU _,I,Gr.refl _,fs.nil _ _⟩
 .
  obtain⟨k,f,lo,S,G,rfl,rfl,L,g,x,C⟩:=hrel;have F:=aA x.size;have d:=aA (C.gr ((Gr.refl wr).alloc (.cells #[.string (s.extract f k)] 9)));have o:Hid (fs (wr.alloc (.cells #[.string (s.extract f k)] 9)) w.heap.size (aR (wr.heap.size) 0 1 1) [s.extract f k]):=fs.made (l:=[s.extract f k]) (cM wr _) F (by simp);have p:=aA (show w.heap.size<=(wr.alloc (.cells #[.string (s.extract f k)] 9)).heap.size by have:=F.out;simp;omega)
  have E:=aA (x.alloc (.cells #[.string (s.extract f k)] 9));have U:=nn k
  have V:=nn f
  have W:(f:Int)<=(k:Int):=by omega
  by_cases h:k=s.size
  .have H:(k:Int)<=(s.size:Int):=by omega
   have N:((k:Int)==(s.size:Int))=true:=by simp;omega
   have j:=aA (g.last h)
   clear g h;go_wp2_with (refine yN _ rfl _ _ rfl w.heap.size u5 lo (by simp[Act.eval]) d (aR (wr.heap.size) 0 1 1) [s.extract f k] (by simp[Act.eval]) o (by simp;omega) p ?_;intro J K Q a b);have y:=aA (E.grown b (fun q D=>(fA d q D).1));rw[bV,jN]at a;have m:=aA a;clear b a;go_roundw
   .exact⟨k+1,k+1,lo++[s.extract f k],by omega,aU _,by go_num,by go_num,by simp;omega,j,y,m⟩
   .simp[intOf];omega
  .by_cases u:k<s.size
   .have H:(k:Int)<=(s.size:Int):=by omega
    have N:((k:Int)==(s.size:Int))=false:=by simp;omega
    have X:(k:Int)<(s.size:Int):=by omega
    by_cases r:s[k].toNat=B
    .have R:((s[k].toNat:Int)==(B:Int))=true:=by simp[r]
     have j:=aA (g.hit G u (r.trans n.symm));clear g r;go_wp2_with (refine yN _ rfl _ _ rfl w.heap.size u5 lo (by simp[Act.eval]) d (aR (wr.heap.size) 0 1 1) [s.extract f k] (by simp[Act.eval]) o (by simp;omega) p ?_;intro J K Q a b);have y:=aA (E.grown b (fun q D=>(fA d q D).1));rw[bV,jN]at a;have m:=aA a;clear b a;go_roundw
     .exact⟨k+1,k+1,lo++[s.extract f k],by omega,aU _,by go_num,by go_num,by simp;omega,j,y,m⟩
     .simp[intOf];omega
    .have R:((s[k].toNat:Int)==(B:Int))=false:=by simp;omega
     have j:=aA (g.miss G u (fun e=>r (e.trans n)));clear g r;go_wp2_with fail;go_roundw
     .exact⟨k+1,f,lo,by omega,by omega,by go_num,rfl,by omega,j,x,C⟩
     .simp[intOf];omega
   .have H:¬(k:Int)<=(s.size:Int):=by omega
    have j:=aA (g.stop (by omega));clear g;go_wp2_with fail;go_ret;exact⟨lo,_,rfl,j,C,x⟩
def my:jk->ByteArray
 | .target=>⟨#[116,97,114,103,101,116]⟩
 | .group=>⟨#[103,114,111,117,112]⟩
 | .version=>⟨#[118,101,114,115,105,111,110]⟩
 | .number=>⟨#[110,117,109,98,101,114]⟩
 | .mode=>⟨#[109,111,100,101]⟩
 | .authors=>⟨#[97,117,116,104,111,114,115]⟩
 | .pub=>⟨#[112,117,98,108,105,99]⟩
def Y9(k:Fin 5)(w:aB):Calls prog 38 #[.int .i64 ((k.val:Int)+1)] w fun e w'=>∃v,e=.returned v/\fs w' w.heap.size v ((ge k).map my)/\Gr w w':=by
 have:k=0\/k=1\/k=2\/k=3\/k=4:=by omega
 rcases this with rfl|rfl|rfl|rfl|rfl
 .show Calls prog 38 #[.int .i64 1] w _
  go_in;go_wp2_with fail;go_ret;exact⟨_,rfl,fs.made (l:=(ge 0).map my) (cM w _) (aU _) (aH rfl),(Gr.refl w).alloc _⟩
 .show Calls prog 38 #[.int .i64 2] w _
  go_in;go_wp2_with fail;go_ret;exact⟨_,rfl,fs.made (l:=(ge 1).map my) (cM w _) (aU _) (aH rfl),(Gr.refl w).alloc _⟩
 .show Calls prog 38 #[.int .i64 3] w _
  go_in;go_wp2_with fail;go_ret;exact⟨_,rfl,fs.made (l:=(ge 2).map my) (cM w _) (aU _) (aH rfl),(Gr.refl w).alloc _⟩
 .show Calls prog 38 #[.int .i64 4] w _
  go_in;go_wp2_with fail;go_ret;exact⟨_,rfl,fs.made (l:=(ge 3).map my) (cM w _) (aU _) (aH rfl),(Gr.refl w).alloc _⟩
 .show Calls prog 38 #[.int .i64 5] w _
  go_in;go_wp2_with fail;go_ret;exact⟨_,rfl,fs.made (l:=(ge 4).map my) (cM w _) (aU _) (aH rfl),(Gr.refl w).alloc _⟩
def aa_:∀i:Fin 64,(⟨#[65,66,67,68,69,70,71,72,73,74,75,76,77,78,79,80,81,82,83,84,85,86,87,88,89,90,97,98,99,100,101,102,103,104,105,106,107,108,109,110,111,112,113,114,115,116,117,118,119,120,121,122,48,49,50,51,52,53,54,55,56,57,43,47]⟩:aJ)[i.val]'(i.isLt)=cP i.val:=by decide+kernel
def acr(q:Nat)(a:q<64)(w:aB):(Instr.index 9 (.string ⟨#[65,66,67,68,69,70,71,72,73,74,75,76,77,78,79,80,81,82,83,84,85,86,87,88,89,90,97,98,99,100,101,102,103,104,105,106,107,108,109,110,111,112,113,114,115,116,117,118,119,120,121,122,48,49,50,51,52,53,54,55,56,57,43,47]⟩) (.int .i64 (q:Int))).run prog w=.ok (.int .u8 ((cP q).toNat:Int)) w:=by
 rw[AB w 9 _ .i64 _ underlying9,dif_pos (by constructor<;>(first|omega|(show(q:Int)<64;omega)))];have h:=aa_ ⟨q,a⟩;simp only[m_];rw[h]
def Er:∀c:UInt8,fp c=false->gN c= -1:=qA (by decide+kernel)
def WU{c:UInt8}(h:∀j,j<64->cP j≠c):gN c= -1:=by
 refine Er c ?_
 cases hb:fp c with
 |false=>rfl
 |true=>
  obtain⟨a,b⟩:=Cu c hb;exact absurd a (h _ b)
def Wk(c:UInt8)(w:aB):Calls prog 171 #[.int .u8 (c.toNat:Int)] w fun e w'=>e=.returned (.int .i64 (gN c))/\w=w':=by
 have n:Hid (∀k,k<64->(cP k).toNat=c.toNat->gN c=(k:Int)):=fun k p h=>by rw[<-lP.1 h];exact(BJ p).1
 have m:Hid ((∀j,j<64->(cP j).toNat≠c.toNat)->gN c= -1):=fun h=>WU fun j o e=>h j o (by rw[e]);generalize gN c=v at*
 generalize c.toNat=f at*
 go_in;go_wp2_with fail
 go_loop [3,4,5,6,7,8,9,10,11] (fun i _ _ _ _ _ _ _ _=>∃k:Nat,k<=64/\i=.int .i64 k/\Hid (∀j,j<k->(cP j).toNat≠f)) (fun i _ _ _ _ _ _ _ _=>64-(intOf i).toNat)
 .exact⟨0,bW _,rfl,fun j h=>absurd h (lZ _)⟩
 .
  obtain⟨k,p,rfl,a⟩:=hrel;by_cases l:k<64
  .have r:(k:Int)<64:=by omega
   have t:=nn k
   have q:=acr k l;by_cases g:(cP k).toNat=f
   .have b:=aA (n k l g)
    have s:(((cP k).toNat:Int)==(f:Int))=true:=by simp[g]
    generalize(cP k).toNat=d at*
    go_wp2_with fail;go_ret;exact⟨eJ b.symm,rfl⟩
   .have b:Hid (∀j,j<k+1->(cP j).toNat≠f):=fun j o=>by
     by_cases e:j=k
     .subst e;exact g
     .exact a j (by omega)
    have s:(((cP k).toNat:Int)==(f:Int))=false:=by simp;omega
    generalize(cP k).toNat=d at*
    go_wp2_with fail
    go_round
    .exact⟨k+1,by omega,by go_num,b⟩
    .simp[intOf];omega
  .have r:¬(k:Int)<64:=by omega
   have b:=aA (m (fun j o=>a j (by omega)));go_wp2_with fail;go_ret;exact⟨eJ b.symm,rfl⟩
def Bd(s:aJ)(k:Nat)(h:k<s.size):(bl s).getD k 0=s[k]:=by
 rw[eD,cO (by rw[bN];exact h)];rfl
def wC(c:UInt8):c=61↔c.toNat=61:=⟨fun h=>by rw[h];rfl,fun h=>lP.1 h⟩
def Gz(s:aJ)(i:Nat)(h:i<s.size):(d' (bl s)<=i)↔(s.size%4=0/\s[i].toNat=61/\(i=s.size-1\/(i+2=s.size/\(s[s.size-1]'(by omega)).toNat=61))):=by
 have o:=bN s;have j:=Bd s (s.size-1) (by omega);unfold d';rw[o,j];constructor
 .intro g
  split at g
  .omega
  .rename_i l
   have f:s.size%4=0:=qi fun e=>l (.inr (.inl e));have m:(s[s.size-1]'(by omega))=61:=qi fun e=>l (.inr (.inr e))
   have b:=(wC _).1 m;have a:=Bd s (s.size-2) (by omega);rw[a]at g;by_cases hi:i=s.size-1
   .subst hi
    exact⟨f,b,.inl rfl⟩
   .split at g
    .rename_i n
     have d:=(wC _).1 n;obtain rfl:i=s.size-2:=by omega
     exact⟨f,d,.inr ⟨by omega,b⟩⟩
    .omega
 .rintro⟨f,hi,c⟩
  rcases c with c|⟨c,k⟩
  .subst c
   rw[aF (by rintro(q|q|q);omega;omega;exact q ((wC _).2 hi))];split<;>omega
  .obtain rfl:i=s.size-2:=by omega
   have a:=Bd s (s.size-2) (by omega);rw[aF (by rintro(q|q|q);omega;omega;exact q ((wC _).2 k)),a,aG ((wC _).2 hi)];omega
def Ue(s:aJ)(i:Nat)(h:i<s.size)(B:s.size<=1100)(w:aB):Calls prog 172 #[.string s,.int .i64 (i:Int)] w fun e w'=>e=.returned (.bool (decide (d' (bl s)<=i)))/\w=w':=by
 have f:=aA (Gz s i h);have a:s.size-1<s.size:=by omega
 generalize d' (bl s)=d at*
 have C:=nn i
 have D:(i:Int)<(s.size:Int):=by omega
 obtain⟨r,z,c⟩:∃r:Nat,(s.size:Int)%4=(r:Int)/\s.size%4=r:=⟨s.size%4,by omega,rfl⟩;have v:(0:Int)<=(s.size:Int)-1:=by omega
 have x:(s.size:Int)-1<(s.size:Int):=by omega
 have y:((s.size:Int)-1).toNat=s.size-1:=by omega
 rw[c]at f;by_cases n:r=0
 .subst n
  by_cases hi:s[i].toNat=61
  .have o:((s[i].toNat:Int)==61)=true:=by simp[hi]
   have m:((s[i].toNat:Int) != 61)=false:=by simp[hi]
   by_cases j:i=s.size-1
   .have p:((i:Int)==(s.size:Int)-1)=true:=by simp;omega
    have g:Hid (decide (d<=i)=true):=fm (f.out.2 ⟨rfl,hi,.inl j⟩);generalize decide (d<=i)=b at*
    clear f hi j c;go_in;go_wp2_with fail;go_ret;exact⟨eU g.out.symm,rfl⟩
   .have p:((i:Int)==(s.size:Int)-1)=false:=by simp;omega
    by_cases k:i+2=s.size
    .have t:((i:Int)==(s.size:Int)-2)=true:=by simp;omega
     by_cases l:(s[s.size-1]'a).toNat=61
     .have u:(((s[s.size-1]'a).toNat:Int)==61)=true:=by simp[l]
      have g:Hid (decide (d<=i)=true):=fm (f.out.2 ⟨rfl,hi,.inr ⟨k,l⟩⟩);generalize decide (d<=i)=b at*
      clear f hi j k l c;go_in;go_wp2_with fail;go_ret;exact⟨eU g.out.symm,rfl⟩
     .have u:(((s[s.size-1]'a).toNat:Int)==61)=false:=by simp;omega
      have g:Hid (decide (d<=i)=false):=eL (fun q=>by
       obtain⟨_,_,q|q⟩:=f.out.1 q
       .exact j q
       .exact l q.2)
      generalize decide (d<=i)=b at*
      clear f hi j k l c;go_in;go_wp2_with fail;go_ret;exact⟨eU g.out.symm,rfl⟩
    .have t:((i:Int)==(s.size:Int)-2)=false:=by simp;omega
     have g:Hid (decide (d<=i)=false):=eL (fun q=>by
      obtain⟨_,_,q|q⟩:=f.out.1 q
      .exact j q
      .exact k q.1)
     generalize decide (d<=i)=b at*
     clear f hi j k c;go_in;go_wp2_with fail;go_ret;exact⟨eU g.out.symm,rfl⟩
  .have o:((s[i].toNat:Int)==61)=false:=by simp;omega
   have m:((s[i].toNat:Int) != 61)=true:=by simp;omega
   have g:Hid (decide (d<=i)=false):=eL (fun q=>hi (f.out.1 q).2.1);generalize decide (d<=i)=b at*
   clear f hi c;go_in;go_wp2_with fail;go_ret;exact⟨eU g.out.symm,rfl⟩
 .have o:((r:Int)==0)=false:=by simp;omega
  have m:((r:Int) != 0)=true:=by simp;omega
  have g:Hid (decide (d<=i)=false):=eL (fun q=>n (f.out.1 q).1);generalize decide (d<=i)=b at*
  clear f c;go_in;go_wp2_with fail;go_ret;exact⟨eU g.out.symm,rfl⟩
def TN{B:List Bool}{g:List Nat}{c:List Bool}(h:cJ 8 B=(g,c))(b:Bool):
  c.length<8/\(c.length=7->cJ 8 (B++[b])=(g++[2*bT c+b.toNat],[]))/\(c.length≠7->cJ 8 (B++[b])=(g,c++[b])):=by
 have f:=sM (k:=8) (aH rfl) B.length B (aU _);have d:=yu (k:=8) (aH rfl) B.length B [b] (aU _);rw[h]at f d;refine⟨f,fun e=>?_,fun e=>?_⟩
 .rw[d]
  have:=FM (k:=8) (aH rfl) (a:=c++[b]) (l:=[]) (by simp[e]);rw[je]at this;rw[this,po (by simp),qk]
 .rw[d,po (k:=8) (l:=c++[b]) (by simp only[bV,dN,iJ];simp only at f;omega)]
  simp
def Up{B:List Bool}{d:List Nat}{a:List Bool}(h:cJ 8 B=(d,a)):8*d.length+a.length=B.length/\a.length<8/\bT a<128:=by
 have b:=xw (k:=8) (aH rfl) B;have c:=sM (k:=8) (aH rfl) B.length B (aU _);rw[h]at b c;have e:=oP a;simp only at b c;exact⟨b,c,dQ e (eu (nR (aH rfl) (show a.length<=7 by omega)) (aH rfl))⟩
def nT(l:aT)(k m:Nat):List Bool:=e_ (l.take k)++eN (6-m) ((gN (l.getD k 0)).toNat/2^m)
def aa'(l:aT)(k:Nat):nT l k 6=e_ (l.take k):=by unfold nT;simp[eN]
def Qb(l:aT)(k m:Nat)(h:m<6):nT l k m=nT l k (m+1)++[(gN (l.getD k 0)).toNat/2^m%2==1]:=by
 unfold nT;rw[show 6-m=(6-(m+1))+1 by omega,eN,fl,Nat.div_div_eq_div_mul,<-qe]
def Ta(l:aT)(k:Nat)(h:k<l.length):e_ (l.take (k+1))=e_ (l.take k)++eN 6 (gN (l.getD k 0)).toNat:=by
 rw[eF h,eD,cO h];unfold e_;rw[pG];simp
def Un(l:aT)(k:Nat)(h:k<l.length):nT l k 0=e_ (l.take (k+1)):=by
 rw[Ta l k h];unfold nT;simp
def V5(l:aT)(k m:Nat)(h:k<=l.length)(a:m<=6):(nT l k m).length<=6*k+6:=by
 unfold nT;rw[bV,zA,p8,dP];omega
def abn(q:Nat)(h:q<64):bits .and .i64 (q:Int) 1=((q%2:Nat):Int):=by
 have:∀q:Fin 64,bits .and .i64 (q.val:Int) 1=((q.val%2:Nat):Int):=by decide+kernel
 exact this ⟨q,h⟩
def Nq{p:UInt8->Bool}:∀(s:aT) (k:Nat) (h:k<s.length),p s[k]=false->(s.takeWhile p).length<=k
 |c::s,0,_,hp=>by rw[r',aF (by simpa using hp)];simp
 |c::s,k+1,h,hp=>by
  rw[r'];split
  .rw[dN]
   have:=Nq s k (by simpa using h) (by simpa using hp);omega
  .simp
def Pn{p:UInt8->Bool}(s:aT)(h:∀j (a:j<s.length),p s[j]=true):(s.takeWhile p).length=s.length:=
 JX (gY.2 fun c b=>by
  obtain⟨j,a,rfl⟩:=pD b;exact h j a)
def N6{s:aT}{k:Nat}(d:k<d' s)(e:s.length<=174764)(b:fp (s.getD k 0)=false):fD s=6:=by
 have c:=(FQ s).1;have a:oB s<d' s:=by
  unfold oB;have:((s.take (d' s)).takeWhile fp).length<=k:=by
   refine Nq _ k (by rw[dP];omega) ?_;rw[DL];rw[eD,cO (by omega)]at b;exact b
  omega
 unfold fD;rw[aF (by omega),aG a]
def SI{s:aT}(e:s.length<=174764)(a:∀j,j<d' s->fp (s.getD j 0)=true):fD s=if s.length%4≠0 then 4 else if bT (rz s).2≠0 then 3 else 0:=by
 have d:=(FQ s).1;have b:oB s=d' s:=by
  unfold oB
  rw[Pn _ (fun j c=>by
   rw[dP]at c;rw[DL];have:=a j (by omega);rw[eD,cO (by omega)]at this;exact this),dP]
  omega
 unfold fD;rw[aF (by omega),aF (by omega)]
def FL(s:aJ)(w:aB)(e:Ending)(w':aB):Prop:=
 ∃v a,e=.returned (.tuple #[v,a,.int .i64 (fD (bl s))])/\(fD (bl s)=0->aZ w' w.heap.size v (ie (bl s)))/\Gr w w'
def Te(s:aJ)(w:aB)(hs:s.size<=1100):Calls prog 124 #[.string s] w (FL s w):=by
 have hl:=bN s;have T:=(FQ (bl s)).1;have S:=aA (Qb (bl s));have P:=aA (aa' (bl s));have Q:Hid (∀k,k<s.size->nT (bl s) k 0=e_ ((bl s).take (k+1))):=fun k hk=>Un (bl s) k (by omega);have HU:Hid (∀k m,k<=s.size->m<=6->(nT (bl s) k m).length<=6*k+6):=fun k m hk hm=>V5 (bl s) k m (by omega) hm;have N:=aA (Bd s);have O:Hid (∀k (h:k<s.size),d' (bl s)<=k->s[k]=61):=fun k h T=>(wC _).2 ((Gz s k h).1 T).2.1;have H6:Hid (∀k,k<d' (bl s)->fp ((bl s).getD k 0)=false->fD (bl s)=6):=fun k hk hb=>N6 hk (by omega) hb
 have a1:Hid ((∀j,j<d' (bl s)->fp ((bl s).getD j 0)=true)->fD (bl s)=if s.size%4≠0 then 4 else if bT (rz (bl s)).2≠0 then 3 else 0):=fun h=>by
  have:=SI (s:=bl s) (by omega) h;rwa[hl]at this
 have af:Hid (rz (bl s)=cJ 8 (e_ ((bl s).take (d' (bl s))))):=rfl;have M:Hid (ie (bl s)=(rz (bl s)).1.map UInt8.ofNat):=rfl;have E:Hid (∀k (h:k<s.size) W,Calls prog 172 #[.string s,.int .i64 (k:Int)] W fun e w'=>e=.returned (.bool (decide (d' (bl s)<=k)))/\W=w'):=fun k h W=>Ue s k h hs W;have a7:=aA Wk;have F:Hid (∀v a er W',fD (bl s)=er->(er=0->aZ W' w.heap.size v (ie (bl s)))->Gr w W'->FL s w (.returned (.tuple #[v,a,.int .i64 er])) W'):=fun v a er W' he ho hg=>⟨v,a,by rw[he],fun h=>ho (by rw[<-he];exact h),hg⟩;have i1:¬174764<(s.size:Int):=by omega
 have b1:d' (bl s)<=s.size:=by omega
 generalize ar:d' (bl s)=d at*
 generalize aq:fD (bl s)=de at*
 generalize au:rz (bl s)=dr at*
 generalize ap:ie (bl s)=db at*
 clear ar aq au ap T hl;go_in;go_wp2_with fail
 go_loopw [5,6,7,8,9] (fun o v G la i wr=>∃(k:Nat) (z:Int) (L:List Nat) (B:List Bool),k<=s.size/\i=.int .i64 k/\la=.int .i64 z/\v=.int .i64 ((bT B:Nat):Int)/\G=.int .i64 ((B.length:Nat):Int)/\Hid (cJ 8 (e_ ((bl s).take (min k d)))=(L,B))/\Hid (∀j,j<k->j<d->fp ((bl s).getD j 0)=true)/\Hid (Gr w wr)/\Hid (aZ wr w.heap.size o (L.map UInt8.ofNat))) (fun _ _ _ _ i _=>s.size-(intOf i).toNat)
 .exact⟨0,0,[],[],bW _,rfl,rfl,rfl,rfl,by show _=_;simp[e_];rfl,fun j h=>absurd h (lZ _),Gr.refl _,aZ.nil _ _⟩
 .
  obtain⟨k,z,L,B,hk,rfl,rfl,rfl,rfl,b,c,f,I⟩:=hrel;by_cases p:k<s.size
  .have q1:(k:Int)<(s.size:Int):=by omega
   have q2:=nn k
   have HV:=aA (a7 s[k]);have g:=N k p;by_cases ax:k<d
   .cases hb:fp s[k]with
    |false=>
     have G:=Er _ hb;rw[G]at HV;have Z:=aA (H6 k ax (by rw[g];exact hb));have HI:=aA (E k p);rw[eL (by omega:¬d<=k)]at HI;clear g G hb c b;go_wp2_with (first|(go_at_call 171;refine dK (HV _) ?_)|(go_at_call 172;refine dK (HI _) ?_))
     go_ret3
     exact F _ _ _ _ Z (fun h=>by cases h) f
    |true=>
     have t:min k d=k:=by omega
     rw[t,<-P.out]at b
     have n:Hid (∀j,j<k+1->j<d->fp ((bl s).getD j 0)=true):=fun j hj T=>by
      by_cases e:j=k
      .rw[e,g];exact hb
      .exact c j (by omega) T
     have HX:=aA (S k);have a2:=aA (Q k p);have a4:=aA (show min (k+1) d=k+1 by omega)
     have ak:Hid (∀m,m<=6->(nT (bl s) k m).length<=6*k+6):=fun m hm=>HU k m hk hm;rw[g]at HX;have a8:=(Cu s[k] hb).2;have aw:(0:Int)<=gN s[k]:=by unfold fp at hb;simpa using hb
     obtain⟨x,hx,ae⟩:∃x:Nat,gN s[k]=(x:Int)/\(gN s[k]).toNat=x:=⟨(gN s[k]).toNat,by omega,rfl⟩;rw[ae]at HX a8;rw[hx]at HV
     clear g hb c t hx ae aw HU S Q P H6 O E N;go_wp2_with (go_at_call 171;refine dK (HV _) ?_);generalize wr=wo at*
     go_loopw [5,6,7,11] (fun o v G i wr=>∃(m:Nat) (z:Int) (L:List Nat) (B:List Bool),m<=6/\z=(m:Int)-1/\i=.int .i64 z/\v=.int .i64 ((bT B:Nat):Int)/\G=.int .i64 ((B.length:Nat):Int)/\Hid (cJ 8 (nT (bl s) k m)=(L,B))/\Hid (Gr w wr)/\Hid (aZ wr w.heap.size o (L.map UInt8.ofNat))) (fun _ _ _ i _=>(intOf i+1).toNat)
     .exact⟨6,5,L,B,aU _,rfl,rfl,rfl,rfl,b,f,I⟩
     .
      clear b f I;obtain⟨m,z,C,rs,hm,hz,rfl,rfl,rfl,b,f,I⟩:=hrel;by_cases ab:m=0
      .obtain rfl:z= -1:=by omega
       subst ab;rw[a2.out,<-a4.out]at b;clear hz hm;go_wp2_with fail;go_roundw
       .exact⟨k+1,k,C,rs,by omega,by go_num,rfl,rfl,rfl,b,n,f,I⟩
       .simp[intOf];omega
      .obtain⟨j,rfl⟩:∃j,m=j+1:=⟨m-1,by omega⟩
       obtain rfl:z=(j:Int):=by omega
       have hj:j<6:=by omega
       have p0:=nn j
       obtain⟨g1,g2,g3⟩:=TN b.out (x/2^j%2==1);obtain⟨s1,s2,s4⟩:=Up b.out;have s5:=ak (j+1) (by omega);rw[<-HX.out j hj]at g2 g3;have hq:x/2^j<64:=xh (Mq _ _) a8;have J:=abn _ hq;have K:((x/2^j%2==1):Bool).toNat=x/2^j%2:=by
        rcases Dh (x/2^j)with e|e<;>rw[e]<;>rfl
       rw[K]at g2;have y:=qk rs (x/2^j%2==1);rw[K]at y;obtain⟨q,X⟩:=ex (x/2^j);have az:(x:Int)/2^j=(q:Int):=by rw[<-X];simp
       rw[X]at J g2 g3 y hq;generalize av:(q%2==1)=bb at*
       obtain⟨cb,a9,a0⟩:∃cb,q%2=cb/\cb<=1:=⟨_,rfl,by omega⟩;rw[a9]at J g2 y;have R:=aA y;have G2:=aA g2;have G3:=aA g3;have ac:(rs++[bb]).length=rs.length+1:=by simp
       have a6:=aA ac;have b3:C.length<=2000:=by omega
       clear X a9 av g2 g3 y ac hz hm ab b s1 s5;generalize bT rs=V at*
       obtain⟨u,hu,Y⟩:∃u:Nat,2*(V:Int)+(cb:Int)=(u:Int)/\2*V+cb=u:=⟨2*V+cb,by omega,rfl⟩;rw[Y]at R G2;have ay:u<256:=by omega
       by_cases h5:rs.length=7
       .have HG:=aA (G2 h5)
        have w8:IntKind.u8.wrap (u:Int)=(u:Int):=by rw[gg];omega
        have w9:(u:Int)%256=(u:Int):=by omega
        have e1:cU (UInt8.ofNat u)=.int .u8 (u:Int):=by unfold cU;simp;omega
        have a5:=aA (I.gr ((Gr.refl wr).alloc (.cells #[.int .u8 (u:Int)] 5)));have an:Hid (aZ (wr.alloc (.cells #[.int .u8 (u:Int)] 5)) w.heap.size (aR (wr.heap.size) 0 1 1) [UInt8.ofNat u]):=by
         rw[<-e1];exact aZ.made (l:=[UInt8.ofNat u]) (cM wr _) f.size (by simp)
        have ao:=aA (show w.heap.size<=(wr.alloc (.cells #[.int .u8 (u:Int)] 5)).heap.size by have:=f.size;simp;omega)
        have ai:=aA (f.alloc (.cells #[.int .u8 (u:Int)] 5));have al:=aA (show C.map UInt8.ofNat++[UInt8.ofNat u]=(C++[u]).map UInt8.ofNat by simp)
        have aj:=aA (show (C.map UInt8.ofNat).length=C.length by simp)
        rw[h5];clear G2 G3 Y R a6 h5 g1 s2 e1;go_wp2_with (refine pp _ rfl _ _ rfl w.heap.size u5 (C.map UInt8.ofNat) (by simp[Act.eval]) a5 (aR (wr.heap.size) 0 1 1) [UInt8.ofNat u] (by simp[Act.eval]) an (C.length+1) (by rw[aj.out];rfl) (by omega) ao ?_;intro a3 c3 w3 U aa);have G3:=aA (ai.grown aa (fun q hq=>(fA a5 q hq).1));rw[al.out]at U;have am:=aA U;clear aa U;go_roundw
        .exact⟨j,(j:Int)-1,C++[u],[],by omega,rfl,rfl,rfl,rfl,HG,G3,am⟩
        .first|(simp[intOf];done)|(simp[intOf];omega)
       .have HG:=aA (G3 h5)
        have y1:(((rs.length:Nat):Int)+1==8)=false:=by simp;omega
        have b2:rs.length<8:=g1;clear G2 G3 Y s2 g1;generalize hH:rs.length=H at*
        clear hH;go_wp2_with fail;go_roundw
        .exact⟨j,(j:Int)-1,C,rs++[bb],by omega,rfl,rfl,by rw[R.out],by rw[a6.out];go_num,HG,f,I⟩
        .first|(simp[intOf];done)|(simp[intOf];omega)
   .have he:s[k]=61:=O k p (by omega)
    have G:gN s[k]= -1:=by rw[he];exact Er 61 WI
    rw[G]at HV;have HI:=aA (E k p);rw[fm (by omega:d<=k)]at HI;have HM:=aA (show min (k+1) d=min k d by omega)
    have n:Hid (∀j,j<k+1->j<d->fp ((bl s).getD j 0)=true):=fun j hj T=>c j (by omega) T;rw[<-HM.out]at b;clear g G he c;go_wp2_with (first|(go_at_call 171;refine dK (HV _) ?_)|(go_at_call 172;refine dK (HI _) ?_));go_roundw
    .exact⟨k+1,z,L,B,by omega,by go_num,rfl,rfl,rfl,b,n,f,I⟩
    .simp[intOf];omega
  .have q1:¬(k:Int)<(s.size:Int):=by omega
   have t:min k d=d:=by omega
   rw[t,<-af.out]at b;have D:=a1 (fun j hj=>c j (by omega) hj);rw[b.out]at D M;have HB:=aA M;simp only at D HB;have Z:=aA D;obtain⟨r,hr,ad⟩:∃r:Nat,(s.size:Int)%4=(r:Int)/\s.size%4=r:=⟨s.size%4,by omega,rfl⟩;rw[ad]at Z;clear D M c t b a1 ad HU S Q P H6 O E N a7;generalize bT B=V at*
   by_cases h4:r=0
   .subst h4
    by_cases hV:V=0
    .subst hV
     go_wp2_with fail
     go_ret3
     exact F _ _ _ _ Z (fun _=>by rw[HB.out];exact I) f
    .have y1:((V:Int)==0)=false:=by simp;omega
     have y2:((V:Int) != 0)=true:=by simp;omega
     have ag:=aA (show de=3 by rw[Z.out,aF (by simp),aG hV])
     go_wp2_with fail
     go_ret3
     exact F _ _ _ _ ag (fun h=>by cases h) f
   .have y1:((r:Int)==0)=false:=by simp;omega
    have y2:((r:Int) != 0)=true:=by simp;omega
    have ah:=aA (show de=4 by rw[Z.out,aG h4])
    go_wp2_with fail
    go_ret3
    exact F _ _ _ _ ah (fun h=>by cases h) f
section
def aaq(c:UInt8)(w:aB):Calls prog 119 #[.int .u8 (c.toNat:Int)] w fun e w'=>e=.returned (.int .i64 (fq c))/\w=w':=by
 have l:=c.toNat_lt;have a:=aA (MH c);generalize fq c=v at*
 generalize c.toNat=n at*
 have m:IntKind.i64.wrap (n:Int)=(n:Int):=by rw[cV];omega
 by_cases f:48<=n
 .by_cases g:n<=57
  .have b:(48:Int)<=(n:Int):=by omega
   have j:(n:Int)<=57:=by omega
   go_in;go_wp2_with fail;go_ret;exact⟨eJ (by rw[a.out,aG ⟨f,g⟩]),rfl⟩
  .have b:(48:Int)<=(n:Int):=by omega
   have j:¬(n:Int)<=57:=by omega
   by_cases h:97<=n
   .have d:(97:Int)<=(n:Int):=by omega
    by_cases i:n<=102
    .have k:(n:Int)<=102:=by omega
     go_in;go_wp2_with fail;go_ret;exact⟨eJ (by rw[a.out,aF (by omega),aG ⟨h,i⟩];omega),rfl⟩
    .have k:¬(n:Int)<=102:=by omega
     go_in;go_wp2_with fail;go_ret;exact⟨eJ (by rw[a.out,aF (by omega),aF (by omega)]),rfl⟩
   .have d:¬(97:Int)<=(n:Int):=by omega
    go_in;go_wp2_with fail;go_ret;exact⟨eJ (by rw[a.out,aF (by omega),aF (by omega)]),rfl⟩
 .have b:¬(48:Int)<=(n:Int):=by omega
  have d:¬(97:Int)<=(n:Int):=by omega
  go_in;go_wp2_with fail;go_ret;exact⟨eJ (by rw[a.out,aF (by omega),aF (by omega)]),rfl⟩
@[local go_sem ↓ high] def agl (w:aB):Sem.run prog (zeroValue 147) w=.ok (aE (bC bM)) w:=by kernel_rfl
def jV(s:aT):aT:=(s.drop 1).take 64
def TY(s:aT)(j:Nat)(h:j<64):(jV s).getD j 0=s.getD (j+1) 0:=by
 unfold jV;rw[eD,mi,aG h,kM,eD,pl]
def P4(s:aJ)(w:aB)(hs:s.size<=1100):Calls prog 66 #[.string s] w (tb (bl s) w):=by
 have HG:=aA (((Gr.refl w).alloc (aC (bC bM) 147)).alloc (aC (bC bM) 147));have L:=aA (pg w (aC (bC bM) 147) (aC (bC bM) 147));have HB:=aA (lh w (aC (bC bM) 147) (aC (bC bM) 147));have D:=bN s;have C:=aA (I6 (bl s));rw[D]at C
 have ab:Hid (∀k (S:k<s.size),(bl s).getD k 0=s[k]):=fun k S=>by
  rw[eD,cO (by rw[bN];exact S)];rfl
 have a8:=aA (TY (bl s));have c:Hid (ix (bl s)=false->∀W a er,er≠0->Gr w W->tb (bl s) w (.returned (.tuple #[aE (bC bM),.int .i64 a,.int .i64 er])) W):=fun hm W a er he hg=>⟨a,er,by rw[Ej hm],by rw[hm];exact⟨fun h=>absurd h he,fun h=>by cases h⟩,hg⟩
 have g:Hid (ix (bl s)=true->∀W,Gr w W->tb (bl s) w (.returned (.tuple #[aE ((dV 32 (jV (bl s)) 64).map cU),.int .i64 0,.int .i64 0])) W):=fun hm W hg=>by
  obtain⟨h1,h2,h3⟩:=EC hm;have a3:(jV (bl s)).length=2*32:=by unfold jV;rw[dP,eh,h1];rfl
  refine⟨0,0,?_,by rw[hm];simp,hg⟩;have e:(dV 32 (jV (bl s)) 64).map cU=bC (eI (bl s)):=by
   rw[show(64:Nat)=2*32 from rfl,Lk 32 _ a3];unfold eI;rw[aG hm];unfold bC;have e2:(lX 32 (gK (List.take 64 (List.drop 1 (bl s))))).toList=gK (jV (bl s)):=rM (su 32 _ a3);rw[e2];rfl
  rw[e]
 have am:Hid (dV 32 (jV (bl s)) 0=List.replicate 32 0):=rfl;clear D;go_in;go_wp2_with fail
 go_loopw [7] (fun i wr=>∃k:Nat,k<=min s.size 71/\i=.int .i64 k/\Hid (∀j,j<k->jj j ((bl s).getD j 0)=true)/\Hid (Gr w wr)/\Hid (wr.heap[w.heap.size]? =some (.cells (bC bM).toArray 147 (0,0)))/\Hid (wr.heap[w.heap.size+1]? =some (.cells ((dV 32 (jV (bl s)) (min (k-1) 64)).map cU).toArray 147 (0,0)))) (fun i _=>71-(intOf i).toNat)
 .exact⟨0,bW _,rfl,fun j h=>absurd h (lZ _),HG.out,L.out,HB.out⟩
 .
  obtain⟨k,S,rfl,H,M,f,t⟩:=hrel;have hr:=aP f.out 0 32 (by rw[a_];decide);have P:=bE f.out 0 32;have u:=aA (bO (cs:=bC bM) f.out rfl);have z:=aA (M.out.setsOwn (b:=w.heap.size) (aU _) (bC bM) 0);have D:((dV 32 (jV (bl s)) (min (k-1) 64)).map cU).length=32:=by rw[cL,rL]
  by_cases Q:k<min s.size 71
  .have ag:k<s.size:=by omega
   have aq:(k:Int)<71:=by omega
   have ar:=nn k
   have au:(k:Int)<(s.size:Int):=by omega
   have r:=ab.out k ag
   have m:Hid (jj k s[k]=false->ix (bl s)=false):=fun P=>by
    cases h:ix (bl s)with
    |false=>rfl
    |true=>
     have:=(C.out.1 h).2 k (by omega);rw[r,P]at this;cases this
   have l:Hid (jj k s[k]=true->∀j,j<k+1->jj j ((bl s).getD j 0)=true):=fun P j Z=>by
    by_cases e:j=k
    .rw[e,r];exact P
    .exact H.out j (by omega)
   by_cases h0:k=0
   .subst h0
    have d:Hid (jj 0 s[0]=(s[0]==60)):=rfl;by_cases F:s[0].toNat=60
    .have y1:((s[0].toNat:Int)==60)=true:=by simp[F]
     have y2:((s[0].toNat:Int) != 60)=false:=by simp[F]
     have B:=aA (l.out (by rw[d.out,lu];exact lP.1 F));clear r H l m d F c g;go_wp2_with fail;go_roundw
     .exact⟨1,by omega,rfl,B.out,M.out,f.out,t.out⟩
     .simp[intOf]
    .have y1:((s[0].toNat:Int)==60)=false:=by simp;omega
     have y2:((s[0].toNat:Int) != 60)=true:=by simp;omega
     have B:=aA (c.out (m.out (by rw[d.out,dI];intro e;exact F (by rw[e];rfl))));clear r H l m d F c g t;go_wp2_with fail;refine bI (gn (p:=2) (u1:=3) (u2:=4) rfl _ _ w.heap.size _ _ _ _ rfl u.out underlying147 rfl (by rw[bQ,a_];kernel_rfl)) rfl ?_;exact B.out _ _ _ (aH rfl) z.out
   .have z0:((k:Int)==0)=false:=by simp;omega
    by_cases ao:k<=64
    .have z1:(k:Int)<=64:=by omega
     have d:=aA (show jj k s[k]=fE s[k] by unfold jj;rw[aF (by omega),aG (by omega)])
     have HI:=aA (aaq s[k]);by_cases hv:fq s[k]<0
     .have B:=aA (c.out (m.out (by rw[d.out,vS];exact hv)))
      clear r H l m d c g t;go_wp2_with (go_at_call 119;refine dK (HI.out _) ?_);refine bI (gn (p:=2) (u1:=3) (u2:=4) rfl _ _ w.heap.size _ _ _ _ rfl u.out underlying147 rfl (by rw[bQ,a_];kernel_rfl)) rfl ?_;exact B.out _ _ _ (aH rfl) z.out
     .have N:fE s[k]=true:=by
       cases hb:fE s[k]with
       |true=>rfl
       |false=>exact absurd ((vS _).1 hb) hv
      have B:=aA (l.out (by rw[d.out];exact N));obtain⟨_,K,R⟩:=uv s[k] N;obtain⟨j,a1⟩:∃j,k=j+1:=⟨k-1,by omega⟩;have V:min (k-1) 64=j:=by omega
      have X:min (k+1-1) 64=j+1:=by omega
      have T:=aA X;rw[V]at t D;have O:=a8.out j (by omega);rw[<-a1,r]at O;have hD:Hid ((dV 32 (jV (bl s)) (j+1)).map cU=((dV 32 (jV (bl s)) j).map cU).set (j/2) (cU ((dV 32 (jV (bl s)) j).getD (j/2) 0<<<4|||fY s[k]))):=by
       show _=_;rw[dV,Cx,O]
      have Z:j/2<(dV 32 (jV (bl s)) j).length:=by rw[rL];omega
      have c0:wr.cell? (aD (w.heap.size+1) (j/2))=some (.int .u8 (((dV 32 (jV (bl s)) j).getD (j/2) 0).toNat:Int)):=by
       rw[bH t.out,fo,cO Z,eD,cO Z];rfl
      have f0:=ee t.out (j/2);have b1:=(bY.1 t.out).1;have a5:=KI ((dV 32 (jV (bl s)) j).getD (j/2) 0) (fY s[k]) (by rw[R];exact K);generalize(dV 32 (jV (bl s)) j).getD (j/2) 0=x at*
      obtain⟨n,hn,a4⟩:∃n:Nat,fq s[k]=(n:Int)/\(fY s[k]).toNat=n:=⟨(fq s[k]).toNat,by omega,R⟩;rw[a4]at a5;rw[hn]at HI;have hw:IntKind.u8.wrap (n:Int)=(n:Int):=by rw[gg];omega
      have a0:(n:Int)%256=(n:Int):=by omega
      have av:¬(n:Int)<0:=by omega
      have ap:(k:Int)-1=(j:Int):=by omega
      have aj:j<64:=by omega
      have ai:((j:Int)/2).toNat=j/2:=by omega
      have q1:(0:Int)<=(j:Int)/2:=by omega
      have q2:(j:Int)/2<32:=by omega
      have q3:j/2<32:=by omega
      generalize x<<<4|||fY s[k]=y at*
      have az:IntKind.u8.wrap (IntKind.u8.wrap ((x.toNat:Int)*16)+(n:Int))=(y.toNat:Int):=by rw[gg,gg];exact a5
      have a6:=aA (fC wr (w.heap.size+1) (j/2) _ _ (cU y) t.out);have a7:=aA ((cG wr (aD (w.heap.size+1) (j/2)) w.heap.size (cU y) (by show w.heap.size≠w.heap.size+1;omega)).trans f.out);have aa:=aA (M.out.setOwn (b:=w.heap.size+1) (o:=j/2) (by omega) (cU y));clear r D hv K R hn a4 N H a1 HG L HB u z hr P V X O m l c g Z t f d;go_wp2_with (go_at_call 119;refine dK (HI.out _) ?_);go_roundw
      .exact⟨k+1,by omega,by go_num,B.out,aa.out,a7.out,by show _=_;rw[T.out,hD.out];simpa[cU]using a6.out⟩
      .simp[intOf];omega
    .have z1:¬(k:Int)<=64:=by omega
     obtain⟨q,af⟩:∃q,k=q+65:=⟨k-65,by omega⟩;have ah:q<6:=by omega
     have d:=aA (show jj k s[k]=(s[k]==jK.getD q 0) by unfold jj;rw[aF (by omega),aF (by omega),show k-65=q by omega])
     have a9:=aA (show min (k+1-1) 64=min (k-1) 64 by omega)
     have ht:=Mb q ah;have aw:(k:Int)-65=(q:Int):=by omega
     have ak:IntKind.i64.wrap ((k:Int)-65)=(q:Int):=by rw[cV];omega
     have al:IntKind.i64.wrap (q:Int)=(q:Int):=by rw[cV];omega
     clear af;by_cases F:s[k].toNat=(jK.getD q 0).toNat
     .have B:=aA (l.out (by rw[d.out,lu];exact lP.1 F))
      have y1:((s[k].toNat:Int)==((jK.getD q 0).toNat:Int))=true:=by simp[F]
      have y2:((s[k].toNat:Int) != ((jK.getD q 0).toNat:Int))=false:=by simp[F]
      rw[<-a9.out]at t;clear r H l m d F c g D;generalize(jK.getD q 0).toNat=tq at*
      go_wp2_with fail
      go_quiet (fail)
      go_wp2_with fail;go_roundw
      .exact⟨k+1,by omega,by go_num,B.out,M.out.drewN _,f.out,t.out⟩
      .simp[intOf];omega
     .have B:=aA (c.out (m.out (by rw[d.out,dI];intro e;exact F (by rw[e]))))
      have y1:((s[k].toNat:Int)==((jK.getD q 0).toNat:Int))=false:=by rw[dI];omega
      have y2:((s[k].toNat:Int) != ((jK.getD q 0).toNat:Int))=true:=by rw[qp];omega
      clear r H l m d F c g D t;generalize(jK.getD q 0).toNat=tq at*
      go_wp2_with fail
      go_quiet (fail)
      have J:(wr.drewN nq).heap[w.heap.size]? =some (.cells (bC bM).toArray 147 (0,0)):=f.out
      have Y:=M.out.drewN nq;clear hr P u z f;generalize wr.drewN nq=U at*
      have hr:=aP J 0 32 (by rw[a_];decide);have P:=bE J 0 32;have u:=aA (bO (cs:=bC bM) J rfl);have z:=aA (Y.setsOwn (b:=w.heap.size) (aU _) (bC bM) 0);clear J Y;go_wp2_with fail;refine bI (gn (p:=2) (u1:=3) (u2:=4) rfl _ _ w.heap.size _ _ _ _ rfl u.out underlying147 rfl (by rw[bQ,a_];kernel_rfl)) rfl ?_;exact B.out _ _ _ (aH rfl) z.out
  .have I:((k:Int)<(s.size:Int)/\¬(k:Int)<71)\/¬(k:Int)<(s.size:Int):=by omega
   have E:Hid (s.size≠71->ix (bl s)=false):=fun h=>by
    cases hm:ix (bl s)with
    |false=>rfl
    |true=>exact absurd (C.out.1 hm).1 h
   by_cases G:s.size=71
   .have hm:=C.out.2 ⟨G,fun j Z=>H.out j (by omega)⟩
    have ae:k=71:=by omega
    have a2:min (k-1) 64=64:=by omega
    rw[a2]at t D;have B:=aA (g.out hm);have i1:¬(k:Int)<(s.size:Int):=by omega
    have i2:¬(s.size:Int)<71:=by omega
    have i3:¬71<(s.size:Int):=by omega
    have ax:=aP t.out 0 32 (by rw[D];decide);have hq:=(bJ t.out 0 32 (by rw[D];decide)).trans (b_ _ _ D);have an:cN ((dV 32 (jV (bl s)) 64).map cU)=true:=gY.2 fun v hv=>by obtain⟨b,_,rfl⟩:=iQ.1 hv;rfl
    have ac:=aA (bO (cs:=(dV 32 (jV (bl s)) 64).map cU) f.out (by rw[D,a_]));have ad:=aA (M.out.setsOwn (b:=w.heap.size) (aU _) ((dV 32 (jV (bl s)) 64).map cU) 0);clear H t f Q S HG HB L M I E G hm ae a2 C c g;generalize(dV 32 (jV (bl s)) 64).map cU=cs at*
    go_wp2_with fail;refine bI (gn (p:=2) (u1:=3) (u2:=4) rfl _ _ w.heap.size _ _ _ _ rfl ac.out underlying147 rfl (by rw[bQ,D];kernel_rfl)) rfl ?_;exact B.out _ ad.out
   .have B:=aA (c.out (E.out G))
    by_cases ay:s.size<71
    .have i1:¬(k:Int)<(s.size:Int):=by omega
     have i2:(s.size:Int)<71:=by omega
     clear H t Q S I E G C c g D;go_wp2_with fail;refine bI (gn (p:=2) (u1:=3) (u2:=4) rfl _ _ w.heap.size _ _ _ _ rfl u.out underlying147 rfl (by rw[bQ,a_];kernel_rfl)) rfl ?_;exact B.out _ _ _ (aH rfl) z.out
    .have i1:(k:Int)<(s.size:Int):=by omega
     have i0:¬(k:Int)<71:=by omega
     have i2:¬(s.size:Int)<71:=by omega
     have i3:71<(s.size:Int):=by omega
     clear H t Q S I E G C c g D;go_wp2_with fail;refine bI (gn (p:=2) (u1:=3) (u2:=4) rfl _ _ w.heap.size _ _ _ _ rfl u.out underlying147 rfl (by rw[bQ,a_];kernel_rfl)) rfl ?_;exact B.out _ _ _ (aH rfl) z.out
end
section
@[local go_sem ↓ high] def ahD (b:Nat) (l:bF) (k:Nat) (w:aB):w.drew.setCells b k l=(w.setCells b k l).drew:=F8 b l k w
def vV{P:Program}{fn:Func}{p u1 u2:Tmp}{ty:TypeId}(h:fn.results=#[.tmp u1,.cell p ty,.tmp u2])(a:Array Value)(w:aB)(g:Nat)(t:TypeId)(cs:Array Value)(fr:Nat×Nat)(d:TypeDesc)
  (f:a.getD p undef=bZ g) (e:w.heap[g]? =some (.cells cs t fr))
  (i:P.underlying ty=some d) (c:(match d with| .struct _| .array _ _=>true|_=>false)=true) (hi:(P.info? ty).map (·.size)=some cs.size):
  (results fn a).run P w=.ok (.tuple #[a.getD u1 undef,.agg cs,a.getD u2 undef]) w:=by
 have b:a[p]?.getD undef=bZ g:=by simpa using f
 simp[results,h,b,asAddr,uM w g t ty cs fr d e i c hi]
def qn(l:aM)(k:Nat):aM:=(l.drop 1).take k++List.replicate (16-k) 0
def abu{l:aM}(b:l.length=17)(k:Nat)(a:k<=16):(qn l k).length=16:=by
 unfold qn;rw[bV,dP,eh,oY];omega
def acX(l:aM):(qn l 0).map cU=bC aQ:=rfl
def V_{l:aM}(d:l.length=17)(k:Nat)(c:k<16):(qn l (k+1)).map cU=((qn l k).map cU).set k (cU (l.getD (k+1) 0)):=by
 rw[<-tX];congr 1;unfold qn;have a:k<(l.drop 1).length:=by rw[eh];omega
 have b:((l.drop 1).take k).length=k:=by rw[dP];omega
 rw[eF a,show 16-k=(16-(k+1))+1 by omega,Fc,pu _ _ (by omega),b,qR,eZ,fl,xe,eD,cO (by omega)];simp[pl]
def Ye{l:aM}(a:l.length=17):(qn l 16).map cU=bC (lX 16 (l.drop 1)):=by
 unfold qn bC;rw[rM (by rw[eh,a]),eq (by rw[eh];omega)];simp;rfl
def Bk(s:aJ)(w:aB)(e:Ending)(w':aB):Prop:=e=.returned (.tuple #[.int .i64 (k_ (bl s)),aE (bC (kP (bl s))),.int .i64 (fW (bl s))])/\Gr w w'
def Vz(s:aJ)(w:aB)(hs:s.size<=1100):Calls prog 71 #[.string s] w (Bk s w):=by
 have a7:=((Gr.refl w).alloc (aC (bC aQ) 22)).alloc (aC (bC aQ) 22);have O:=aA (pg w (aC (bC aQ) 22) (aC (bC aQ) 22));have Q:=aA (lh w (aC (bC aQ) 22) (aC (bC aQ) 22));have HDC:=aA (Te s ((w.alloc (aC (bC aQ) 22)).alloc (aC (bC aQ) 22)) hs);have T:=aA a7;have I:=aA (show ((w.alloc (aC (bC aQ) 22)).alloc (aC (bC aQ) 22)).heap.size=w.heap.size+2 by simp)
 have r:Hid (∀er J,fW (bl s)=er/\er≠0->Gr w J->Bk s w (.returned (.tuple #[.int .i64 0,aE (bC aQ),.int .i64 er])) J):=fun er J he hg=>by
  refine⟨?_,hg⟩;unfold k_ kP;rw[he.1,aF he.2,aF he.2]
 have Z:Hid (∀J,fW (bl s)=0->Gr w J->Bk s w (.returned (.tuple #[.int .i64 (((ie (bl s)).headD 0).toNat:Int),aE (bC (lX 16 ((ie (bl s)).drop 1))),.int .i64 0])) J):=fun J he hg=>by
  refine⟨?_,hg⟩;unfold k_ kP;rw[he,aG rfl,aG rfl]
 have d:Hid (fW (bl s)=if fD (bl s)≠0 then fD (bl s)else if(ie (bl s)).length<17 then 4 else if 17<(ie (bl s)).length then 5 else cH (((ie (bl s)).headD 0).toNat:Int)):=rfl;generalize hX:(w.alloc (aC (bC aQ) 22)).alloc (aC (bC aQ) 22)=X at*
 have a5:=aA hX;clear hX a7;unfold FL at HDC;generalize fD (bl s)=de at*
 generalize ie (bl s)=db at*
 go_in;go_wp2_with fail;rw[a5.out];refine HDC.out.mono ?_;rintro e W ⟨v,a,rfl,hv,F⟩;have D:=aA ((F.block (b:=w.heap.size) (by rw[I.out];omega)).trans O.out);have BR:=aA ((F.block (b:=w.heap.size+1) (by rw[I.out];omega)).trans Q.out);have GW:=aA (T.out.trans F);have q:Hid (∀l,Gr w (W.setCells w.heap.size 0 l).drew):=fun l=>(GW.out.setsOwn (b:=w.heap.size) (aU _) l 0).drew;have r0:=aP D.out 0 16 (by rw[a_];decide);have f0:=bE D.out 0 16;have r1:=aP BR.out 0 16 (by rw[a_];decide);have q1:=(bJ BR.out 0 16 (by rw[a_];decide)).trans (b_ _ _ (a_ aQ));clear a5 F T O Q HDC;have z0:w.heap.size<W.heap.size:=(bY.1 D.out).1;have z1:w.heap.size+1<W.heap.size:=(bY.1 BR.out).1;by_cases t:de=0
 .subst t
  have HO:=aA (hv rfl);rw[aF (by simp)]at d;obtain⟨a0,c0,rfl⟩:=HO.out.shape;obtain⟨n,hn⟩:=ex db.length;rw[hn]at d;rw[hn];by_cases L:n<17
  .have z:=aA (show fW (bl s)=4 by rw[d.out,aG L])
   have i1:(n:Int)<17:=by omega
   clear hn hv;go_wp2_with fail;apply qr
   case h=>
    go_region_law (fail);all_goals exact⟨rfl,rfl⟩
   go_wp2_with fail;refine bI (vV (u1:=2) (p:=3) (u2:=4) rfl _ _ w.heap.size _ _ _ _ rfl (wc (bO (cs:=bC aQ) D.out rfl)) underlying22 rfl (by rw[bQ,a_];kernel_rfl)) rfl ?_;exact r.out _ _ (by exact⟨z.out,by decide⟩) (q.out _)
  .by_cases a6:17<n
   .have z:=aA (show fW (bl s)=5 by rw[d.out,aF L,aG a6])
    have i1:¬(n:Int)<17:=by omega
    have i2:17<(n:Int):=by omega
    clear hn hv;go_wp2_with fail;apply qr
    case h=>
     go_region_law (fail);all_goals exact⟨rfl,rfl⟩
    go_wp2_with fail;refine bI (vV (u1:=2) (p:=3) (u2:=4) rfl _ _ w.heap.size _ _ _ _ rfl (wc (bO (cs:=bC aQ) D.out rfl)) underlying22 rfl (by rw[bQ,a_];kernel_rfl)) rfl ?_;exact r.out _ _ (by exact⟨z.out,by decide⟩) (q.out _)
   .have aa:n=17:=by omega
    subst aa;obtain⟨g,c,ab,_,ah,a8,C⟩:=HO.out.cells (by intro e;rw[e]at hn;cases hn);obtain⟨rfl,-,rfl⟩:a0=some ⟨g,0,none⟩/\db.length=db.length/\c0=c:=by simpa using ab
    have H:Hid (∀j,j<17->W.cell? (aD g j)=some (.int .u8 ((db.getD j 0).toNat:Int))):=fun j hj=>by
     have:=C j db[j] (cO (by omega));rw[fB]at this;rw[this,eD,cO (by omega)];rfl
    have ak:w.heap.size+2<=g:=by rw[<-I.out];exact a8
    have Y:=aA (show db.headD 0=db.getD 0 0 by cases db<;>rfl)
    rw[aF L,aF a6,Y.out]at d;rw[Y.out]at Z;have a4:=aA (V_ hn);have a2:=aA (Ye hn);have a3:=aA (abu hn);have a1:=aA (acX db);have K:=H.out 0 (aH rfl);have ai:=(db.getD 0 0).toNat_lt;clear hn hv ab C a8 HO;generalize ac:(db.getD 0 0).toNat=x at*
    have ag:=aA ac;clear ac;have HH:Hid (cH (x:Int)=if(x:Int)<1\/8<(x:Int)then 2 else 0):=rfl;by_cases al:x<1
    .have z:=aA (show fW (bl s)=2 by rw[d.out,HH.out,aG (by omega)])
     have i1:(x:Int)<1:=by omega
     go_wp2_with fail;apply qr
     case h=>
      go_region_law (fail);all_goals exact⟨rfl,rfl⟩
     go_wp2_with fail;refine bI (vV (u1:=2) (p:=3) (u2:=4) rfl _ _ w.heap.size _ _ _ _ rfl (wc (bO (cs:=bC aQ) D.out rfl)) underlying22 rfl (by rw[bQ,a_];kernel_rfl)) rfl ?_;exact r.out _ _ (by exact⟨z.out,by decide⟩) (q.out _)
    .by_cases am:8<x
     .have z:=aA (show fW (bl s)=2 by rw[d.out,HH.out,aG (by omega)])
      have i1:¬(x:Int)<1:=by omega
      have i2:8<(x:Int):=by omega
      go_wp2_with fail;apply qr
      case h=>
       go_region_law (fail);all_goals exact⟨rfl,rfl⟩
      go_wp2_with fail;refine bI (vV (u1:=2) (p:=3) (u2:=4) rfl _ _ w.heap.size _ _ _ _ rfl (wc (bO (cs:=bC aQ) D.out rfl)) underlying22 rfl (by rw[bQ,a_];kernel_rfl)) rfl ?_;exact r.out _ _ (by exact⟨z.out,by decide⟩) (q.out _)
     .have z:=aA (show fW (bl s)=0 by rw[d.out,HH.out,aF (by omega)])
      have i1:¬(x:Int)<1:=by omega
      have i2:¬8<(x:Int):=by omega
      clear r0 f0 r1 q1 r q;go_wp2_with fail;clear K
      go_loopw [9] (fun i wr=>∃k:Nat,k<=16/\i=.int .i64 k/\Hid (Gr w wr)/\Hid (wr.heap[w.heap.size]? =some (.cells (bC aQ).toArray 22 (0,0)))/\Hid (wr.heap[w.heap.size+1]? =some (.cells ((qn db k).map cU).toArray 22 (0,0)))/\Hid (g<wr.heap.size/\wr.heap[g]? =W.heap[g]?)) (fun i _=>16-(intOf i).toNat)
      .exact⟨0,bW _,rfl,GW.out,D.out,by rw[a1.out];exact BR.out,ah,rfl⟩
      .
       obtain⟨k,hk,rfl,hG,m,f,B⟩:=hrel
       have E:∀j,j<17->wr.cell? (aD g j)=some (.int .u8 ((db.getD j 0).toNat:Int)):=fun j hj=>by
        rw[<-H.out j hj];unfold World.cell?;rw[B.out.2]
       have aj:=B.out.1;have hl:=a3.out k hk;have M:((qn db k).map cU).length=16:=by rw[cL,hl]
       by_cases a9:k<16
       .have j1:(k:Int)<16:=by omega
        have j2:=nn k
        have j3:((k:Int)+1).toNat=k+1:=by omega
        have j4:(0:Int)<=(k:Int)+1:=by omega
        have j5:(k:Int)+1<17:=by omega
        have c1:=E (k+1) (by omega);have N:∃u,wr.cell? (aD (w.heap.size+1) k)=some u:=by
         rw[bH f.out,cO (by rw[M];exact a9)];exact⟨_,rfl⟩
        obtain⟨u,c2⟩:=N;have f2:=ee f.out k;have af:=aA (a4.out k a9);generalize db.getD (k+1) 0=y at*
        have S:=aA (fC wr (w.heap.size+1) k _ _ (cU y) f.out);have P:=aA ((cG wr (aD (w.heap.size+1) k) w.heap.size (cU y) (by show w.heap.size≠w.heap.size+1;omega)).trans m.out);have ae:=aA (hG.out.setOwn (b:=w.heap.size+1) (o:=k) (by omega) (cU y));have V:Hid (g<(wr.setCell (aD (w.heap.size+1) k) (cU y)).heap.size/\(wr.setCell (aD (w.heap.size+1) k) (cU y)).heap[g]? =W.heap[g]?):=⟨by simpa using aj,(cG wr (aD (w.heap.size+1) k) g (cU y) (by show g≠w.heap.size+1;omega)).trans B.out.2⟩
        clear E hl M m f hG B;go_wp2_with fail;go_roundw
        .exact⟨k+1,by omega,by go_num,ae.out,P.out,by show _=_;rw[af.out];simpa[cU]using S.out,V.out⟩
        .simp[intOf];omega
       .have j1:¬(k:Int)<16:=by omega
        have G:k=16:=by omega
        rw[G,a2.out]at f;have K:=E 0 (aH rfl);rw[ag.out]at K;have wx:IntKind.i64.wrap (x:Int)=(x:Int):=by rw[cV];omega
        have r0:=aP m.out 0 16 (by rw[a_];decide);have f0:=bE m.out 0 16;have r1:=aP f.out 0 16 (by rw[a_];decide);have q1:=(bJ f.out 0 16 (by rw[a_];decide)).trans (b_ _ _ (a_ _));have U:Hid (∀l,Gr w (wr.setCells w.heap.size 0 l).drew):=fun l=>(hG.out.setsOwn (b:=w.heap.size) (aU _) l 0).drew;have ad:=aA (fun(R:cE)=>bO (cs:=bC R) m.out (by rw[a_,a_]));have an:w.heap.size<wr.heap.size:=(bY.1 m.out).1;have ao:w.heap.size+1<wr.heap.size:=(bY.1 f.out).1;clear E hl M m f hG B a2 a4 a3 a1 H G z0 z1;generalize lX 16 (db.drop 1)=R at*
        go_wp2_with fail;apply qr
        case h=>
         go_region_law (fail);all_goals exact⟨rfl,rfl⟩
        go_wp2_with fail;refine bI (vV (u1:=2) (p:=3) (u2:=4) rfl _ _ w.heap.size _ _ _ _ rfl (wc (ad.out R)) underlying22 rfl (by rw[bQ,a_];kernel_rfl)) rfl ?_;exact Z.out _ z.out (U.out _)
 .have y1:(de==0)=false:=by simpa using t
  have y2:(de != 0)=true:=by simpa using t
  have z:Hid (fW (bl s)=de/\de≠0):=⟨by rw[d.out,aG t],t⟩;clear t hv;go_wp2_with fail;apply qr
  case h=>
   go_region_law (fail);all_goals exact⟨rfl,rfl⟩
  go_wp2_with fail;refine bI (vV (u1:=2) (p:=3) (u2:=4) rfl _ _ w.heap.size _ _ _ _ rfl (wc (bO (cs:=bC aQ) D.out rfl)) underlying22 rfl (by rw[bQ,a_];kernel_rfl)) rfl ?_;exact r.out _ _ (by exact z.out) (q.out _)
end
section
def lO(t:jk)(c:Cm)(v:Value)(x:aT)(w:aB)(e:Ending)(w':aB):Prop:=
 ∃b a n k,e=.returned (.tuple #[aE (aL b (.slice a n k)),.int .i64 (iZ t x)])/\(iZ t x=0->b=fJ c t x/\eR w' (.slice a n k) b.mods/\(t≠.authors->Value.slice a n k=v)/\(t=.authors->∀y,a=some y->w.heap.size<=y.block))/\Gr w w'
section
variable (c : Cm) (v : Value)
@[local go_sem ↓ high] theorem af3 (g:aJ):(aL c v).set 33 (.string g)=aL { c with group:=g } v:=by rw[lv _ _ _ _ (aH rfl)];rfl
@[local go_sem ↓ high] theorem agr (n:Int):(aL c v).set 34 (.int .i64 n)=aL { c with version:=n } v:=by rw[lv _ _ _ _ (aH rfl)];rfl
@[local go_sem ↓ high] theorem aek (m:Bool):(aL c v).set 35 (.bool m)=aL { c with moderated:=m } v:=by rw[lv _ _ _ _ (aH rfl)];rfl
@[local go_sem ↓ high] theorem afB (n:Int):(aL c v).set 38 (.int .i64 n)=aL { c with number:=n } v:=by rw[lv _ _ _ _ (aH rfl)];rfl
end
theorem tY{W:aB}{b:Nat}{c:Cm}{v:Value}(d:HB W b (aL c v) 66) (a:HB W (b+1) (aL (aV 0) bB) 66):
  hasRow W (aD b 0) 56=true/\rowAt W (aD b 0) 56=aL c v/\hasRow W (aD (b+1) 0) 56=true/\gz W (aD (b+1) 0) 56=true/\Hid (HB (W.setCells (b+1) 0 (aL c v)) (b+1) (aL c v) 66)/\b<W.heap.size/\b+1<W.heap.size:=
 ⟨aP d 0 56 (by rw[cA];decide),(bJ d 0 56 (by rw[cA];decide)).trans (vy c v),aP a 0 56 (by rw[cA];decide),bE a 0 56,bO a (by rw[cA,cA]),(bY.1 d).1,(bY.1 a).1⟩
theorem YS(c:Cm)(v:Value)(x:aJ)(w:aB)(G:eR w v c.mods):Calls prog 39 #[aE (aL c v),.string ⟨#[103,114,111,117,112]⟩,.string x] w (lO .group c v (bl x) w):=by
 have C:Hid (∀f t l s,jW (bl x)=f->l=fJ c .group (bl x)->eR w s l.mods->s=v->Gr w t->lO .group c v (bl x) w (.returned (.tuple #[aE (aL l s),.int .i64 f])) t):=fun f t l s i I u y j=>by
  obtain⟨a,k,rfl,J⟩:=u.gr j;exact⟨l,a,_,k,by rw[show iZ .group (bl x)=f from i],fun _=>⟨I,⟨a,k,rfl,J⟩,fun _=>y,fun q=>(by cases q)⟩,j⟩
 have r:Hid (jW (bl x)=if jt x≠0 then 12 else 0):=rfl;have D:Hid ({ c with group:=x }=fJ c .group (bl x)):=rfl;have E:=aA G;obtain⟨a,d,rfl,-⟩:=G;have H:=aA (IU x);have z:=aA (((Gr.refl w).alloc (aC (aL { c with group:=x } (.slice a (c.mods.map bC).length d)) 66)).alloc (aC (aL (aV 0) bB) 66));have g:=aA (pg w (aC (aL { c with group:=x } (.slice a (c.mods.map bC).length d)) 66) (aC (aL (aV 0) bB) 66));have h:=aA (lh w (aC (aL { c with group:=x } (.slice a (c.mods.map bC).length d)) 66) (aC (aL (aV 0) bB) 66));generalize(c.mods.map bC).length=n at*
 generalize jt x=f at*
 go_in;go_wp2_with fail;refine bA (H.out _) fun W j=>?_;have m:=(j.block (bY.1 g.out).1).trans g.out;have o:=(j.block (bY.1 h.out).1).trans h.out;obtain⟨M,L,N,K,F,Q,R⟩:=tY m o;have B:=aA ((z.out.trans j).setsOwn (b:=w.heap.size+1) (sK _) (aL { c with group:=x } (.slice a n d)) 0);clear m o j g h z;by_cases i:f=0
 .subst i
  rw[aF (by simp)]at r;go_wp2_with fail;refine bI (jT (p:=6) (u1:=7) rfl _ _ (w.heap.size+1) _ _ _ _ rfl F.out underlying66 rfl (by rw[bQ,cA];kernel_rfl)) rfl ?_;exact C.out _ _ _ _ r.out D.out E.out rfl B.out
 .have O:(f==0)=false:=by simpa using i
  have P:(f != 0)=true:=by simpa using i
  rw[aG i]at r;go_wp2_with fail;refine bI (jT (p:=6) (u1:=7) rfl _ _ (w.heap.size+1) _ _ _ _ rfl F.out underlying66 rfl (by rw[bQ,cA];kernel_rfl)) rfl ?_;exact C.out _ _ _ _ r.out D.out E.out rfl B.out
theorem PU(c:Cm)(v:Value)(x:aJ)(w:aB)(G:eR w v c.mods):Calls prog 39 #[aE (aL c v),.string ⟨#[118,101,114,115,105,111,110]⟩,.string x] w (lO .version c v (bl x) w):=by
 have t:Hid (∀l B j s,ja 0 1000000 (bl x)=l->(l=0->j=fJ c .version (bl x))->j.mods=c.mods->eR w s c.mods->s=v->Gr w B->lO .version c v (bl x) w (.returned (.tuple #[aE (aL j s),.int .i64 l])) B):=fun l B j s E H I C D F=>by
  obtain⟨a,k,rfl,J⟩:=C.gr F;exact⟨j,a,_,k,by rw[show iZ .version (bl x)=l from E],fun h=>⟨H (by rw[<-E];exact h),by rw[I];exact⟨a,k,rfl,J⟩,fun _=>D,fun q=>(by cases q)⟩,F⟩
 have g:Hid (ja 0 1000000 (bl x)=if iB (bl x)=false then 3 else if(fS (bl x):Int)<0\/1000000<(fS (bl x):Int)then 2 else 0):=rfl
 have u:Hid (iB (bl x)=true->{ c with version:=(fS (bl x):Int) }=fJ c .version (bl x)):=fun h=>by
  show _={ c with version:=lR (bl x) };unfold lR;rw[aG h]
 have HN:=aA (L7 x);unfold pO at HN;have z:=aA G;obtain⟨a,d,rfl,-⟩:=G;have f:Hid (∀b:Int,HB ((w.alloc (aC (aL { c with version:=b } (.slice a (c.mods.map bC).length d)) 66)).alloc (aC (aL { c with version:=b } (.slice a (c.mods.map bC).length d)) 66)) (w.heap.size+1) (aL { c with version:=b } (.slice a (c.mods.map bC).length d)) 66):=fun b=>lh w _ _
 have o:Hid (∀b:Int,Gr w ((w.alloc (aC (aL { c with version:=b } (.slice a (c.mods.map bC).length d)) 66)).alloc (aC (aL { c with version:=b } (.slice a (c.mods.map bC).length d)) 66))):=fun b=>((Gr.refl w).alloc _).alloc _;generalize(c.mods.map bC).length=n at*
 cases hb:iB (bl x)with
 |false=>
  rw[hb,aG rfl]at g;rw[hb,aF (aH rfl)]at HN;have r:=aA (f (-1));have m:=aA (o (-1));go_in;go_wp2_with (go_at_call 68;refine dK (HN _) ?_);refine bI (jT (p:=6) (u1:=7) rfl _ _ (w.heap.size+1) _ _ _ _ rfl r underlying66 rfl (by rw[bQ,cA];kernel_rfl)) rfl ?_;exact t _ _ { c with version:=-1 } _ g (fun h=>by cases h) rfl z rfl m
 |true=>
  rw[hb,aF (aH rfl)]at g;rw[hb,aG rfl]at HN;have y:=aA (u hb);generalize fS (bl x)=b at*
  have r:=aA (f b);have m:=aA (o b);have K:¬(b:Int)<0:=by omega
  by_cases h:1000000<(b:Int)
  .have i:=aA (g.trans (aG (.inr h)))
   go_in;go_wp2_with (go_at_call 68;refine dK (HN _) ?_);refine bI (jT (p:=6) (u1:=7) rfl _ _ (w.heap.size+1) _ _ _ _ rfl r underlying66 rfl (by rw[bQ,cA];kernel_rfl)) rfl ?_;exact t _ _ { c with version:=(b:Int) } _ i (fun h=>by cases h) rfl z rfl m
  .have i:=aA (g.trans (aF (by rintro(q|q);exact K q;exact h q)))
   go_in;go_wp2_with (go_at_call 68;refine dK (HN _) ?_);refine bI (jT (p:=6) (u1:=7) rfl _ _ (w.heap.size+1) _ _ _ _ rfl r underlying66 rfl (by rw[bQ,cA];kernel_rfl)) rfl ?_;exact t _ _ { c with version:=(b:Int) } _ i (fun _=>y) rfl z rfl m
theorem Uk(c:Cm)(v:Value)(x:aJ)(w:aB)(H:eR w v c.mods):Calls prog 39 #[aE (aL c v),.string ⟨#[110,117,109,98,101,114]⟩,.string x] w (lO .number c v (bl x) w):=by
 have s:Hid (∀o B m u,ja 1 1000 (bl x)=o->(o=0->m=fJ c .number (bl x))->m.mods=c.mods->eR w u c.mods->u=v->Gr w B->lO .number c v (bl x) w (.returned (.tuple #[aE (aL m u),.int .i64 o])) B):=fun o B m u F I J C D G=>by
  obtain⟨a,k,rfl,K⟩:=C.gr G;exact⟨m,a,_,k,by rw[show iZ .number (bl x)=o from F],fun h=>⟨I (by rw[<-F];exact h),by rw[J];exact⟨a,k,rfl,K⟩,fun _=>D,fun q=>(by cases q)⟩,G⟩
 have g:Hid (ja 1 1000 (bl x)=if iB (bl x)=false then 3 else if(fS (bl x):Int)<1\/1000<(fS (bl x):Int)then 2 else 0):=rfl
 have y:Hid (iB (bl x)=true->{ c with number:=(fS (bl x):Int) }=fJ c .number (bl x)):=fun h=>by
  show _={ c with number:=lR (bl x) };unfold lR;rw[aG h]
 have HN:=aA (L7 x);unfold pO at HN;have t:=aA H;obtain⟨a,f,rfl,-⟩:=H;have i:Hid (∀b:Int,HB ((w.alloc (aC (aL { c with number:=b } (.slice a (c.mods.map bC).length f)) 66)).alloc (aC (aL { c with number:=b } (.slice a (c.mods.map bC).length f)) 66)) (w.heap.size+1) (aL { c with number:=b } (.slice a (c.mods.map bC).length f)) 66):=fun b=>lh w _ _
 have r:Hid (∀b:Int,Gr w ((w.alloc (aC (aL { c with number:=b } (.slice a (c.mods.map bC).length f)) 66)).alloc (aC (aL { c with number:=b } (.slice a (c.mods.map bC).length f)) 66))):=fun b=>((Gr.refl w).alloc _).alloc _;generalize(c.mods.map bC).length=n at*
 cases hb:iB (bl x)with
 |false=>
  rw[hb,aG rfl]at g;rw[hb,aF (aH rfl)]at HN;have l:=aA (i (-1));have j:=aA (r (-1));go_in;go_wp2_with (go_at_call 68;refine dK (HN _) ?_);refine bI (jT (p:=6) (u1:=7) rfl _ _ (w.heap.size+1) _ _ _ _ rfl l underlying66 rfl (by rw[bQ,cA];kernel_rfl)) rfl ?_;exact s _ _ { c with number:=-1 } _ g (fun h=>by cases h) rfl t rfl j
 |true=>
  rw[hb,aF (aH rfl)]at g;rw[hb,aG rfl]at HN;have z:=aA (y hb);generalize fS (bl x)=b at*
  have l:=aA (i b);have j:=aA (r b)
  by_cases h:(b:Int)<1
  .have d:=aA (g.trans (aG (.inl h)))
   go_in;go_wp2_with (go_at_call 68;refine dK (HN _) ?_);refine bI (jT (p:=6) (u1:=7) rfl _ _ (w.heap.size+1) _ _ _ _ rfl l underlying66 rfl (by rw[bQ,cA];kernel_rfl)) rfl ?_;exact s _ _ { c with number:=(b:Int) } _ d (fun h=>by cases h) rfl t rfl j
  .by_cases E:1000<(b:Int)
   .have d:=aA (g.trans (aG (.inr E)))
    go_in;go_wp2_with (go_at_call 68;refine dK (HN _) ?_);refine bI (jT (p:=6) (u1:=7) rfl _ _ (w.heap.size+1) _ _ _ _ rfl l underlying66 rfl (by rw[bQ,cA];kernel_rfl)) rfl ?_;exact s _ _ { c with number:=(b:Int) } _ d (fun h=>by cases h) rfl t rfl j
   .have d:=aA (g.trans (aF (by rintro(q|q);exact h q;exact E q)))
    go_in;go_wp2_with (go_at_call 68;refine dK (HN _) ?_);refine bI (jT (p:=6) (u1:=7) rfl _ _ (w.heap.size+1) _ _ _ _ rfl l underlying66 rfl (by rw[bQ,cA];kernel_rfl)) rfl ?_;exact s _ _ { c with number:=(b:Int) } _ d (fun _=>z) rfl t rfl j
theorem Uu(c:Cm)(v:Value)(x:aJ)(w:aB)(E:eR w v c.mods):Calls prog 39 #[aE (aL c v),.string ⟨#[109,111,100,101]⟩,.string x] w (lO .mode c v (bl x) w):=by
 have i:Hid (∀s y r t,(if bl x=kd\/bl x=nt then(0:Int)else 3)=s->r=fJ c .mode (bl x)->r.mods=c.mods->eR w t c.mods->t=v->Gr w y->lO .mode c v (bl x) w (.returned (.tuple #[aE (aL r t),.int .i64 s])) y):=fun s y r t G F H z B D=>by
  obtain⟨a,k,rfl,I⟩:=z.gr D;exact⟨r,a,_,k,by rw[show iZ .mode (bl x)=s from G],fun h=>⟨F,by rw[H];exact⟨a,k,rfl,I⟩,fun _=>B,fun q=>(by cases q)⟩,D⟩
 have u:=aA E;obtain⟨a,d,rfl,-⟩:=E;have j:Hid (∀b,decide (bl x=kd)=b->{ c with moderated:=b }=fJ c .mode (bl x)):=fun b h=>by subst h;rfl
 have e:Hid (∀b:Bool,HB ((w.alloc (aC (aL { c with moderated:=b } (.slice a (c.mods.map bC).length d)) 66)).alloc (aC (aL { c with moderated:=b } (.slice a (c.mods.map bC).length d)) 66)) (w.heap.size+1) (aL { c with moderated:=b } (.slice a (c.mods.map bC).length d)) 66):=fun b=>lh w _ _
 have g:Hid (∀b:Bool,Gr w ((w.alloc (aC (aL { c with moderated:=b } (.slice a (c.mods.map bC).length d)) 66)).alloc (aC (aL { c with moderated:=b } (.slice a (c.mods.map bC).length d)) 66))):=fun b=>((Gr.refl w).alloc _).alloc _;generalize(c.mods.map bC).length=n at*
 by_cases f:bl x=kd
 .have C:x=⟨#[109,111,100,101,114,97,116,101,100]⟩:=tG f
  have m:=aA (i 0 _ _ (.slice a n d) (aG (.inl f)) (j true (fm f)) rfl u rfl (g true));have o:=aA (e true);subst C;go_in;go_wp2_with fail;refine bI (jT (p:=6) (u1:=7) rfl _ _ (w.heap.size+1) _ _ _ _ rfl o underlying66 rfl (by rw[bQ,cA];kernel_rfl)) rfl ?_;exact m
 .by_cases l:bl x=nt
  .have C:x=⟨#[111,112,101,110]⟩:=tG l
   have m:=aA (i 0 _ _ (.slice a n d) (aG (.inr l)) (j false (eL f)) rfl u rfl (g false));have o:=aA (e false);subst C;go_in;go_wp2_with fail;refine bI (jT (p:=6) (u1:=7) rfl _ _ (w.heap.size+1) _ _ _ _ rfl o underlying66 rfl (by rw[bQ,cA];kernel_rfl)) rfl ?_;exact m
  .have m:=aA (i 3 _ _ (.slice a n d) (aF (by rintro(q|q);exact f q;exact l q)) (j false (eL f)) rfl u rfl (g false))
   have o:=aA (e false);have J:(x.toList==[109,111,100,101,114,97,116,101,100])=false:=by rw[hI,dI];exact f
   have K:(x.toList==[111,112,101,110])=false:=by rw[hI,dI];exact l
   go_in;go_wp2_with fail;refine bI (jT (p:=6) (u1:=7) rfl _ _ (w.heap.size+1) _ _ _ _ rfl o underlying66 rfl (by rw[bQ,cA];kernel_rfl)) rfl ?_;exact m
end
section
@[local go_sem ↓ high] def ahb (w:aB):Sem.run prog (zeroValue 147) w=.ok (aE (bC bM)) w:=by kernel_rfl
@[local go_sem ↓ high] def agh (w:aB):Sem.run prog (zeroValue 66) w=.ok (aE (aL (aV 0) bB)) w:=by kernel_rfl
def Wh(c:Cm)(v:Value)(x:aJ)(w:aB)(Y:eR w v c.mods)(hs:x.size<=1100):Calls prog 39 #[aE (aL c v),.string ⟨#[116,97,114,103,101,116]⟩,.string x] w (lO .target c v (bl x) w):=by
 have L:Hid (∀j N B K,kH (bl x)=j->(j=0->B=fJ c .target (bl x))->B.mods=c.mods->eR w K c.mods->K=v->Gr w N->lO .target c v (bl x) w (.returned (.tuple #[aE (aL B K),.int .i64 j])) N):=fun j N B K l hc hm P Q u=>by
  obtain⟨a,k,rfl,hr⟩:=P.gr u;exact⟨B,a,_,k,by rw[show iZ .target (bl x)=j from l],fun h=>⟨hc (by rw[<-l];exact h),by rw[hm];exact⟨a,k,rfl,hr⟩,fun _=>Q,fun q=>(by cases q)⟩,u⟩
 have s:Hid (kH (bl x)=if ix (bl x)=false then 3 else if eI (bl x)=bM then 1 else 0):=rfl;have S:Hid ({ c with target:=eI (bl x) }=fJ c .target (bl x)):=rfl;have M:=aA Y;obtain⟨a,d,rfl,-⟩:=Y;have o:=aA (pg w (aC (aL c (.slice a (c.mods.map bC).length d)) 66) (aC (aL (aV 0) bB) 66));have r:=aA (lh w (aC (aL c (.slice a (c.mods.map bC).length d)) 66) (aC (aL (aV 0) bB) 66));have R:=aA (((Gr.refl w).alloc (aC (aL c (.slice a (c.mods.map bC).length d)) 66)).alloc (aC (aL (aV 0) bB) 66));have HM:=aA (P4 x ((w.alloc (aC (aL c (.slice a (c.mods.map bC).length d)) 66)).alloc (aC (aL (aV 0) bB) 66)) hs);unfold tb at HM;generalize(c.mods.map bC).length=n at*
 generalize V:(w.alloc (aC (aL c (.slice a n d)) 66)).alloc (aC (aL (aV 0) bB) 66)=X at*
 have T:=aA V;clear V;go_in;go_wp2_with fail;rw[T.out];refine HM.mono ?_;rintro e W ⟨Z,j,rfl,m,u⟩;have H:=(u.block (bY.1 o).1).trans o;have I:=(u.block (bY.1 r).1).trans r;have g:=(R.trans u).alloc (aC (bC (eI (bl x))) 147);have G:=((Gr.refl W).alloc (aC (bC (eI (bl x))) 147));have y:=(G.block (bY.1 H).1).trans H;have J:=(G.block (bY.1 I).1).trans I;have E:=aA m;clear m u T HM o r R;generalize eI (bl x)=i at*
 by_cases l:j=0
 .have C:ix (bl x)=true:=E.1 l
  subst l;rw[C,aF (aH rfl)]at s;have O:=NG y i;have U:=(cD (b:=w.heap.size) (i:=w.heap.size+1) (by omega) (bC i) 1 (W.alloc (aC (bC i) 147))).trans J;have z:=g.setsOwn (b:=w.heap.size) (aU _) (bC i) 1;have rt:=aP y 1 32 (by rw[cA];decide);have ft:=bE y 1 32;obtain⟨-,-,-,-,-,-,-,-,t1,t2,-,-,-,-,-,-,-⟩:=iX O;obtain⟨r0,q0,r1,f1,F,z0,z1⟩:=tY O U;have D:=aA (z.setsOwn (b:=w.heap.size+1) (sK _) (aL { c with target:=i } (.slice a n d)) 0);clear H I g G y J E C O U z
  cases hz:(i==bM)with
  |true=>
   have f:i=bM:=by simpa using hz
   have t:=aA (s.trans (aG f));clear f s;go_wp2_with fail;refine bI (jT (p:=6) (u1:=7) rfl _ _ (w.heap.size+1) _ _ _ _ rfl F underlying66 rfl (by rw[bQ,cA];kernel_rfl)) rfl ?_;exact L _ _ { c with target:=i } _ t (fun _=>S) rfl M rfl D
  |false=>
   have f:¬i=bM:=by simpa using hz
   have t:=aA (s.trans (aF f));clear f s;go_wp2_with fail;refine bI (jT (p:=6) (u1:=7) rfl _ _ (w.heap.size+1) _ _ _ _ rfl F underlying66 rfl (by rw[bQ,cA];kernel_rfl)) rfl ?_;exact L _ _ { c with target:=i } _ t (fun _=>S) rfl M rfl D
 .have C:ix (bl x)=false:=by
   cases h:ix (bl x)with
   |false=>rfl
   |true=>exact absurd (E.2 h) l
  rw[C,aG rfl]at s
  have y2:(j != 0)=true:=by simpa using l
  obtain⟨r0,q0,r1,f1,F,z0,z1⟩:=tY y J;have D:=aA (g.setsOwn (b:=w.heap.size+1) (sK _) (aL c (.slice a n d)) 0);clear H I g G y J E C l;go_wp2_with fail;refine bI (jT (p:=6) (u1:=7) rfl _ _ (w.heap.size+1) _ _ _ _ rfl F underlying66 rfl (by rw[bQ,cA];kernel_rfl)) rfl ?_;exact L _ _ c _ s (fun h=>by cases h) rfl M rfl D
def VO{w:aB}{b:Nat}{c:Cm}{v:Value}{t:TypeId}(h:HB w b (aL c v) t) (n:Int):HB (w.setCell (aD b 39) (.int .i64 n)) b (aL { c with height:=n } v) t:=s_ h 39 _ (by rw[lv _ _ _ _ (aH rfl)];rfl)
def Z_{w:aB}{b:Nat}{c:Cm}{v:Value}{t:TypeId}(h:HB w b (aL c v) t) (r:cE):HB (w.setCells b 40 (bC r)) b (aL { c with root:=r } v) t:=by
 have e:=qT b t [] (bC r) ([Value.int .i64 c.kind]++(bC c.target++([Value.string c.group,.int .i64 c.version,.bool c.moderated,v,.string c.text,.int .i64 c.number]++[Value.int .i64 c.height]))) (bC c.root) w (by rw[a_,a_]) (by rw[AD]at h;exact h);have a:([Value.int .i64 c.kind]++(bC c.target++([Value.string c.group,.int .i64 c.version,.bool c.moderated,v,.string c.text,.int .i64 c.number]++[Value.int .i64 c.height])):bF).length=40:=by simp[a_]
 rw[a]at e;rw[AD { c with root:=r } v];exact e
def Wx(c:Cm)(v:Value)(x:aJ)(w:aB)(hv:eR w v c.mods)(hs:x.size<=1100):Calls prog 39 #[aE (aL c v),.string ⟨#[112,117,98,108,105,99]⟩,.string x] w (lO .pub c v (bl x) w):=by
 have HP:Hid (∀H D,eR w D c.mods->D=v->Gr w H->lO .pub c v (bl x) w (.returned (.tuple #[aE (aL { c with height:=k_ (bl x),root:=kP (bl x) } D),.int .i64 (fW (bl x))])) H):=fun H D M N s=>by
  obtain⟨a,k,rfl,hr⟩:=M.gr s;exact⟨_,a,_,k,rfl,fun _=>⟨rfl,⟨a,k,rfl,hr⟩,fun _=>N,fun q=>(by cases q)⟩,s⟩
 have HV:=aA hv;obtain⟨a,d,rfl,-⟩:=hv;have j:=aA (pg w (aC (aL c (.slice a (c.mods.map bC).length d)) 66) (aC (aL (aV 0) bB) 66));have l:=aA (lh w (aC (aL c (.slice a (c.mods.map bC).length d)) 66) (aC (aL (aV 0) bB) 66));have Q:=aA (((Gr.refl w).alloc (aC (aL c (.slice a (c.mods.map bC).length d)) 66)).alloc (aC (aL (aV 0) bB) 66));have HM:=aA (Vz x ((w.alloc (aC (aL c (.slice a (c.mods.map bC).length d)) 66)).alloc (aC (aL (aV 0) bB) 66)) hs);unfold Bk at HM;generalize(c.mods.map bC).length=n at*
 generalize k_ (bl x)=g at*
 generalize kP (bl x)=f at*
 generalize fW (bl x)=pe at*
 generalize hX:(w.alloc (aC (aL c (.slice a n d)) 66)).alloc (aC (aL (aV 0) bB) 66)=X at*
 have R:=aA hX;clear hX;go_in;go_wp2_with fail;rw[R.out];refine bA HM fun W s=>?_;have y:=(s.block (bY.1 j).1).trans j;have J:=(s.block (bY.1 l).1).trans l;have t:=aA ((Q.trans s).alloc (aC (bC f) 22));have I:=((Gr.refl W).alloc (aC (bC f) 22));have B:=(I.block (bY.1 y).1).trans y;have S:=(I.block (bY.1 J).1).trans J;clear s R HM j l Q I;have z8:w.heap.size<W.heap.size:=(bY.1 y).1;clear y J;go_wp2_with fail;generalize hY:W.alloc (aC (bC f) 22)=Y at*
 have z:HB Y (W.heap.size) (bC f) 22:=by rw[<-hY];exact cM W _
 clear hY
 have K:=(iX B).2.2.2.2.2.2.2.1;have L:=ee B 39;have rY:=aP z 0 16 (by rw[a_];decide);have qY:=(bJ z 0 16 (by rw[a_];decide)).trans (b_ _ _ (a_ f));have C:=VO B g;have u:=aP C 40 16 (by rw[cA];decide);have r:=bE C 40 16;have m:=(cG Y (aD (w.heap.size) 39) W.heap.size (.int .i64 g) (by show W.heap.size≠w.heap.size;omega)).trans z;have P:=aP m 0 16 (by rw[a_];decide);have O:=(bJ m 0 16 (by rw[a_];decide)).trans (b_ _ _ (a_ f));have U:=Z_ (w:=(Y.setCell (aD (w.heap.size) 39) (.int .i64 g)).drew) C f;have T:=(cD (b:=w.heap.size) (i:=w.heap.size+1) (by omega) (bC f) 40 (Y.setCell (aD (w.heap.size) 39) (.int .i64 g)).drew).trans ((cG Y (aD (w.heap.size) 39) (w.heap.size+1) (.int .i64 g) (by show w.heap.size+1≠w.heap.size;omega)).trans S);have Z:=((t.setOwn (b:=w.heap.size) (o:=39) (aU _) (.int .i64 g)).drew).setsOwn (b:=w.heap.size) (aU _) (bC f) 40;apply qr (W:=(Y.setCell (aD (w.heap.size) 39) (.int .i64 g)).drew.setCells w.heap.size 40 (bC f))
 case h=>
  go_region_law (fail);all_goals exact⟨rfl,rfl⟩
 have F:=aA U;have E:=aA T;have G:=aA Z;clear U T Z C u r m P O rY qY K L B S z8 z t;generalize(Y.setCell (aD (w.heap.size) 39) (.int .i64 g)).drew.setCells w.heap.size 40 (bC f)=V at*
 obtain⟨r0,q0,r1,f1,HW,z0,z1⟩:=tY F.out E.out;have GE:=aA (G.setsOwn (b:=w.heap.size+1) (sK _) (aL { c with height:=g,root:=f } (.slice a n d)) 0);go_wp2_with fail;refine bI (jT (p:=6) (u1:=7) rfl _ _ (w.heap.size+1) _ _ _ _ rfl HW underlying66 rfl (by rw[bQ,cA];kernel_rfl)) rfl ?_;exact HP _ _ HV rfl GE
end
section
@[local go_sem ↓ high] def aeK (w:aB):Sem.run prog (zeroValue 66) w=.ok (aE (aL (aV 0) bB)) w:=by kernel_rfl
def aad:(prog.info? 22).map (fun i=>(i.zero,i.size,i.bytes))=some (some (aE (bC aQ)),16,16):=by kernel_rfl
def ZL{x:aJ}{k:Nat}(h:k<(fI x).length)(a:(gZ (bl (fI x)[k])).2≠0):lJ (bl x)=3:=by
 unfold lJ;rw[aG];refine mD.2 ⟨bl (fI x)[k],?_,by simpa using a⟩;rw[<-sO];exact iQ.2 ⟨_,kA h,rfl⟩
def adP{x:aJ}(h:∀k (a:k<(fI x).length),(gZ (bl (fI x)[k])).2=0):lJ (bl x)=rX (ij (fI x)):=by
 have g:(dS 44 (bl x)).length=(fI x).length:=by rw[<-sO,cL]
 have i:0<(dS 44 (bl x)).length:=rd.2 (uK 44 (bl x));rw[<-BL];have f:(oc (bl x)).length=(dS 44 (bl x)).length:=by unfold oc;rw[cL]
 unfold lJ rX;rw[aF,f,aF (by omega:¬(dS 44 (bl x)).length=0)];intro c;obtain⟨y,b,d⟩:=mD.1 c;rw[<-sO]at b;obtain⟨s,e,rfl⟩:=iQ.1 b;obtain⟨k,a,rfl⟩:=pD e;exact absurd (h k a) (by simpa using d)
def BB(P:Program)(t:TypeId)(n:Nat)(a:Array (Nat×Value))(w:aB):Result Next:=(do pure (Next.value (<-Instr.buildSlice t n a)):Sem Next).run P w
@[local go_sem ↓] def aey {P:Program} (b:Operand->Value) (d:Option Tmp) (a:Array (Nat×Operand)) (e:TypeId) (p:String) (c:Array Edge) (g:Option (Nat×Bool)) (w:aB):
  Sem.run P (execOp b ⟨d,.buildSlice 30 1 a,e,p,c,g⟩) w=BB P 30 1 (a.map fun x=>(x.1,b x.2)) w:=rfl
def Sa{P:Program}{t:TypeId}{n:Nat}{a:Array (Nat×Value)}{v:Value}{w w':aB}(h:(Instr.buildSlice t n a).run P w=.ok v w'):BB P t n a w=.ok (.value v) w':=by simp[BB,h]
def abO(f:Nat->Value)(w:aB):(Instr.buildSlice 30 1 #[(0,aE ((List.range 16).map f))]).run prog w=.ok (aR (w.heap.size) 0 1 1) (w.alloc (aC ((List.range 16).map f) 22)):=by kernel_rfl
@[local go_sem] def ahr (y:cE) (w:aB):BB prog 30 1 #[(0,aE (bC y))] w=.ok (.value (aR (w.heap.size) 0 1 1)) (w.alloc (aC (bC y) 22)):=Sa (by rw[ly];exact abO _ w)
def VK(c:Cm)(x:aJ)(w:aB)(bc:c.mods=[])(hs:x.size<=1100):Calls prog 39 #[aE (aL c bB),.string ⟨#[97,117,116,104,111,114,115]⟩,.string x] w (lO .authors c bB (bl x) w):=by
 have HP:Hid (∀S W' c' a n k,lJ (bl x)=S->(S=0->c'=fJ c .authors (bl x)/\eR W' (.slice a n k) c'.mods/\∀y,a=some y->w.heap.size<=y.block)->Gr w W'->lO .authors c bB (bl x) w (.returned (.tuple #[aE (aL c' (.slice a n k)),.int .i64 S])) W'):=fun S W' c' a n k he hc hg=>
  ⟨c',a,n,k,by rw[show iZ .authors (bl x)=S from he],fun h=>⟨(hc (by rw[<-he];exact h)).1,(hc (by rw[<-he];exact h)).2.1,fun q=>absurd rfl q,fun _=>(hc (by rw[<-he];exact h)).2.2⟩,hg⟩
 have a3:=aA (pg w (aC (aL c bB) 66) (aC (aL (aV 0) bB) 66));have a4:=aA (lh w (aC (aL c bB) 66) (aC (aL (aV 0) bB) 66));have G0:=aA (((Gr.refl w).alloc (aC (aL c bB) 66)).alloc (aC (aL (aV 0) bB) 66));have HW:=aA (MK x 44 44 rfl ((w.alloc (aC (aL c bB) 66)).alloc (aC (aL (aV 0) bB) 66)) hs);have a5:Hid (∀k (h:k<(fI x).length),(gZ (bl (fI x)[k])).2≠0->lJ (bl x)=3):=fun k h hb=>ZL h hb;have a6:Hid ((∀k (hk:k<(fI x).length),(gZ (bl (fI x)[k])).2=0)->lJ (bl x)=rX (ij (fI x))):=adP;have R:=aA (show (fI x).length<=1101 by have:=Es x;omega)
 have aj:Hid (∀s∈fI x,s.size<=1000000):=fun s hs=>by have:=IY hs;omega
 have ai:=aA (show { c with mods:=ij (fI x) }=fJ c .authors (bl x) by rw[<-BL];rfl)
 have bb:Hid (∀l v,aL { c with mods:=l } v=aL c v):=fun l v=>rfl;generalize hX:(w.alloc (aC (aL c bB) 66)).alloc (aC (aL (aV 0) bB) 66)=X at*
 have HX:=aA hX;clear hX;have HI:=aA (Az aad);go_in;go_wp2_with fail;rw[HX.out];refine HW.out.mono ?_;rintro e W ⟨l,v,rfl,hl,hO,hg⟩;obtain⟨a0,c0,rfl,hj⟩:=hO.slice;have b0:=aA ((hg.block (bY.1 a3.out).1).trans a3.out);have b1:=aA ((hg.block (bY.1 a4.out).1).trans a4.out);have GW:=aA (G0.out.trans hg);have ao:l=fI x:=LL (hl.trans (sO x).symm);rw[<-ao]at a5 a6 R aj ai
 have ax:Hid (∀g,a0=some (aD g 0)->w.heap.size+2<=g):=fun g az=>by
  subst az;have:=(fA hO g rfl).1;have bk:X.heap.size=w.heap.size+2:=by rw[<-HX.out];simp
  omega
 have HJ:=aA hj;have zW:w.heap.size+1<W.heap.size:=(bY.1 b1.out).1;clear hl ao hO hj hg HX HW a3 a4 G0;go_wp2_with fail
 go_loopw [12] (fun i wr=>∃(k:Nat) (sv:Value),k<=l.length/\i=.int .i64 k/\Hid (Gr w wr)/\Hid (wr.heap[w.heap.size]? =some (.cells (aL c sv).toArray 66 (0,0)))/\Hid (wr.heap[w.heap.size+1]? =some (.cells (aL (aV 0) bB).toArray 66 (0,0)))/\Hid (wr.ownsRow W.heap.size 22 16 sv k ((ij (l.take k)).map bC).flatten)/\Hid (∀j (hj:j<l.length),j<k->(gZ (bl l[j])).2=0)/\Hid (W.heap.size<=wr.heap.size/\∀g,w.heap.size<g->g<W.heap.size->wr.heap[g]? =W.heap[g]?)) (fun i _=>l.length-(intOf i).toNat)
 .exact⟨0,bB,bW _,rfl,GW.out,b0.out,b1.out,⟨rfl,.inl ⟨rfl,rfl⟩⟩,fun j _ h=>absurd h (lZ _),aU _,fun g _ _=>rfl⟩
 .
  obtain⟨k,sv,hk,rfl,hG,H,E,d,B,F⟩:=hrel;obtain⟨C,D,rfl,-⟩:=ql d.out;have bj:=R.out;obtain⟨-,-,-,-,a8,-,-,-,-,-,-,-,-,-,-,-,zb⟩:=iX H.out;by_cases Y:k<l.length
  .obtain⟨g,rfl,am,J⟩:=HJ.out k Y
   have bg:=ax.out g rfl;have al:wr.heap[g]? =W.heap[g]? :=F.out.2 g (by omega) am
   have bf:wr.cell? (aD g k)=some (.string l[k]):=by
    rw[<-J];unfold World.cell?;rw[al]
   have bh:g<wr.heap.size:=dQ am F.out.1;have q1:(k:Int)<(l.length:Int):=by omega
   have q2:=nn k
   have hpa:=fun U=>abI l[k] U (aj.out _ (kA Y));unfold qt at hpa;have ah:=aA hpa;have Q:=aA (a5.out k Y);have ay:=aA (Hq Y)
   have P:Hid ((gZ (bl l[k])).2=0->∀j (hj:j<l.length),j<k+1->(gZ (bl l[j])).2=0):=fun h j hj bi=>by
    by_cases e:j=k
    .subst e;exact h
    .exact B.out j hj (by omega)
   have N:=aA (show k<=1101 by have:=R.out;omega)
   clear hpa J al B;generalize pR (bl l[k])=y at*
   generalize gZ (bl l[k])=ae at*
   obtain⟨ea,S⟩:=ae;simp only at Q P ah;generalize l[k]=s at*
   go_wp2_with fail;refine bA (ah.out _) fun G L=>?_;have Z:=L.trans ((Gr.refl G).alloc (aC (bC y) 22));have a1:=(Z.block zb).trans H.out;have a2:=(Z.block (bY.1 E.out).1).trans E.out;have G3:=aA (hG.out.trans Z);by_cases K:S=0
   .subst K
    have ab:=aA (P.out rfl);have g4:=Z.trans ((Gr.refl (G.alloc (aC (bC y) 22))).alloc (aC (bC y) 22));have O4:=aA (mM d.out g4.grownBy (by cases(Value.slice C k D).ownBlock<;>simp));have aq:=aA ((g4.block zb).trans H.out);have aa:=aA ((g4.block (bY.1 E.out).1).trans E.out);have G4:=aA (hG.out.trans g4);have N4:=aA (Ey (G.alloc (aC (bC y) 22)) y 22 (G.heap.size+1) (by simp));have Z4:Hid (W.heap.size<=((G.alloc (aC (bC y) 22)).alloc (aC (bC y) 22)).heap.size):=eu F.out.1 g4.size;have m:Hid (∀O,(Value.slice C k D).ownBlock=some O->W.heap.size<=O):=fun O M=>(d.out.lt O M).1;have b9:(G.alloc (aC (bC y) 22)).cell? (aD (w.heap.size) 36)=some (.slice C k D):=(Z.cell (p:=⟨w.heap.size,36,none⟩) zb).trans a8;have bn:w.heap.size<(G.alloc (aC (bC y) 22)).heap.size:=dQ zb Z.size;have b8:w.heap.size<G.heap.size:=dQ zb L.size;have ba:=aA g4.size;have ar:Hid (∀g,g<wr.heap.size->((G.alloc (aC (bC y) 22)).alloc (aC (bC y) 22)).heap[g]? =wr.heap[g]?):=fun g hg=>g4.block hg
    clear a1 a2 Z L g4 a8 d Q P;obtain⟨i0,hi,b4,b5,b6⟩:=HI.out;go_wp2_with (at_builtin;refine Fx _ rfl _ _ 30 rfl W.heap.size 22 i0 _ 16 16 underlying30 hi b4 b5 b6 rfl (aH rfl) (.slice C k D) k ((ij (l.take k)).map bC).flatten rfl O4.out (aD (G.heap.size+1) 0) 1 1 (bC y) rfl (by rw[a_]) N4.out (EV y) (by have:=N.out;unfold maxLen;omega) (by have:=N.out;omega) Z4.out ?_;intro v' w8 o f a9;obtain⟨r,t,b3,-⟩:=ql o;subst b3;have I:=(f.block w.heap.size (by simp;omega) (fun e=>by have:=m.out _ e.symm;omega)).trans aq.out;have bd:w8.cell? (aD (w.heap.size) 36)=some (.slice C k D):=(iX I).2.2.2.2.1;have be:=ee I 36;have bm:=(bY.1 I).1;have ag:=aA o;have z:=aA f;have av:=aA I;clear o f a9 I);have G8:=aA (G4.out.grown z.out (fun O M=>by have:=m.out O M;omega));go_roundw
    .
     refine⟨k+1,(.slice r (k+1) t),by omega,by go_num,G8.out.setOwn (aU _) _,IW av.out (.slice r (k+1) t),?_,?_,ab.out,?_,?_⟩
     .exact(cG w8 (aD (w.heap.size) 36) (w.heap.size+1) (.slice r (k+1) t) (by show w.heap.size+1≠w.heap.size;omega)).trans ((z.out.block _ (bY.1 aa.out).1 (fun e=>by have:=m.out _ e.symm;omega)).trans aa.out)
     .show World.ownsRow _ _ _ _ _ _ _
      rw[ay.out];refine mM (w:=w8) (row:=some w.heap.size) ag.out ⟨rfl,rfl,rfl,by simp,fun i hi hn=>cG w8 (aD (w.heap.size) 36) i (.slice r (k+1) t) (fun e=>hn (by rw[e]))⟩ ?_
      cases hob:(Value.slice r (k+1) t).ownBlock with
      |none=>exact .inl rfl
      |some q=>
       right;intro e;have h1:q=w.heap.size:=by cases e;rfl
       have:=(fA ag.out q hob).1;omega
     .have h1:=z.out.size
      have h2:=Z4.out;show W.heap.size<=(w8.setCell (aD (w.heap.size) 36) (.slice r (k+1) t)).heap.size;simp;omega
     .intro g' b2 ak
      refine(cG w8 (aD (w.heap.size) 36) g' (.slice r (k+1) t) (by show g'≠w.heap.size;omega)).trans ((z.out.block g' (by have:=Z4.out;omega) (fun e=>by have:=m.out _ e.symm;omega)).trans ((ar.out g' (by have:=F.out.1;omega)).trans (F.out.2 g' b2 ak)))
    .simp[intOf];omega
   .have y1:(S==0)=false:=by simpa using K
    have y2:(S != 0)=true:=by simpa using K
    have HE:=aA (Q.out K);obtain⟨r0,q0,r1,f1,a7,z0,z1⟩:=tY a1 a2;have GE:=aA (G3.out.setsOwn (b:=w.heap.size+1) (sK _) (aL c (.slice C k D)) 0);have b8:w.heap.size<G.heap.size:=dQ zb L.size;clear a1 a2 Z L d Q P K;go_wp2_with fail;refine bI (jT (p:=6) (u1:=7) rfl _ _ (w.heap.size+1) _ _ _ _ rfl a7.out underlying66 rfl (by rw[bQ,cA];kernel_rfl)) rfl ?_;exact HP.out _ _ c _ _ _ HE.out (fun h=>by cases h) GE.out
  .have q1:¬(k:Int)<(l.length:Int):=by omega
   have an:k=l.length:=by omega
   have HE:=aA (a6.out (fun j hj=>B.out j hj (by omega)));have ap:l.take k=l:=eq (by omega);have ac:Hid (eR wr (.slice C k D) (ij l)):=by
    refine rf (base:=W.heap.size) (e:=22) (J2 (ij l)) ?_;rw[cL,BC,<-an];have:=d.out;rwa[ap]at this
   have m:Hid (∀O,(Value.slice C k D).ownBlock=some O->W.heap.size<=O):=fun O M=>(d.out.lt O M).1;have af:Hid (∀U,Gr wr U->CG 70 #[.slice C k D] U (.int .i64 (rX (ij l)))):=fun U hU=>UU (ij l) _ U (ac.out.gr hU) (by rw[BC];have:=R.out;omega);have T:=H.out;have V:=E.out;have KS:Hid (∀U,Gr wr U->U.heap[w.heap.size]? =some (.cells (aL c (.slice C k D)).toArray 66 (0,0))/\U.heap[w.heap.size+1]? =some (.cells (aL (aV 0) bB).toArray 66 (0,0))):=fun U h=>⟨(h.block (bY.1 T).1).trans T,(h.block (bY.1 V).1).trans V⟩
   have aw:Hid (∀p:GD,Calls prog 70 #[.slice C k D] (gw wr p) fun e b7=>e=.returned (.int .i64 (rX (ij l)))/\∃q:GD,b7=gw wr q):=fun p=>eE (af.out _ (cK wr p));obtain⟨r0,q0,r1,f1,-,z0,z1⟩:=tY T V;clear T V af d B ap an H E F a5 a6;go_wp2_with fail;refine jd 4 (fun u=>∃p:GD,u=gw wr p) (by kernel_rfl) (by kernel_rfl) (nM wr) ?_;simp only[gR,fy,ib,gd];repeat (go_big_quiet_step ((go_at_call 70;with_reducible exact aw.out _)))
   refine cX ?_;rintro _ ⟨p,rfl⟩;have gU:=cK wr p;obtain⟨u0,u1⟩:=KS.out _ gU;have GU:=aA (hG.out.trans gU);have ad:=aA (ac.out.gr gU);clear gU r0 q0 r1 f1 z0 z1 a8 zb;generalize gw wr p=U at*
   obtain⟨r0,q0,r1,f1,a7,z0,z1⟩:=tY u0 u1;have GE:=aA (GU.out.setsOwn (b:=w.heap.size+1) (sK _) (aL c (.slice C k D)) 0);have au:Hid (eR (U.setCells (w.heap.size+1) 0 (aL c (.slice C k D))) (.slice C k D) (ij l)):=by
    refine bX.keep ad.out (fun y hy=>cD (by have:=m.out y.block (by rw[hy];rfl);omega) _ _ _) ?_;rw[kB];exact aU _
   clear u0 u1;go_wp2_with fail;refine bI (jT (p:=6) (u1:=7) rfl _ _ (w.heap.size+1) _ _ _ _ rfl a7.out underlying66 rfl (by rw[bQ,cA];kernel_rfl)) rfl ?_;exact HP.out _ _ { c with mods:=ij l } _ _ _ HE.out (fun _=>⟨ai.out,au.out,fun y hy=>by have:=m.out y.block (by rw[hy];rfl);omega⟩) GE.out
def Si(t:jk)(c:Cm)(v:Value)(x:aJ)(w:aB)(a:eR w v c.mods)(f:t=.authors->c.mods=[]/\v=bB)(b:x.size<=1100):Calls prog 39 #[aE (aL c v),.string (my t),.string x] w (lO t c v (bl x) w):=by
 cases t with
 |target=>exact Wh c v x w a b
 |group=>exact YS c v x w a
 |version=>exact PU c v x w a
 |number=>exact Uk c v x w a
 |mode=>exact Uu c v x w a
 |authors=>
  obtain⟨d,e⟩:=f rfl;subst e;exact VK c x w d b
 |pub=>exact Wx c v x w a b
end
section
@[local go_sem ↓ high] def afv (w:aB):Sem.run prog (zeroValue 66) w=.ok (aE (aL (aV 0) bB)) w:=by kernel_rfl
def ad'{w:aT}{k:Fin 5}:nA w=some k↔bl (gM k)=w:=by
 constructor
 .intro h
  have:=Dy h;simpa using this
 .intro h
  cases hk:nA w with
  |none=>
   have:=List.find?_eq_none.1 hk k (List.mem_finRange k);exact absurd (by simpa using h) this
  |some j=>
   have b:=Dy hk;have a:bl (gM j)=w:=by simpa using b
   rw[EB j k (tG (a.trans h.symm))]
def qD(w:aT):Nat:=match nA w with
 |some k=>k.val+1
 |none=>0
def NX(w:aT)(i:Nat)(a:1<=i)(b:i<=5):bl (nE (i:Int))=w↔qD w=i:=by
 have e:gM ⟨i-1,by omega⟩=nE (i:Int):=by
  show nE (((i-1:Nat):Int)+1)=_;rw[show((i-1:Nat):Int)+1=(i:Int) by omega]
 rw[<-e,<-ad'];unfold qD;constructor
 .intro h;rw[h];simp;omega
 .intro h
  cases hk:nA w with
  |none=>rw[hk]at h;simp only at h;omega
  |some j=>
   rw[hk]at h;simp only at h;congr 1;apply Fin.ext;simp;omega
def WH(w:aT):qD w<=5:=by
 unfold qD
 cases nA w with
 |none=>exact bW _
 |some k=>have:=k.isLt;simp only;omega
def Ou{w a:aB}{b:Nat}(h:w.grownBy a (some b))(o:Nat)(u:Value):w.grownBy (a.setCell (aD b o) u) (some b):=
 ⟨h.os,h.tape,h.output,by simpa using h.size,fun i hi c=>(cG a (aD b o) i u (fun e=>c (by rw[e]))).trans (h.block i hi c)⟩
def Kw{w:aB}{b:Nat}:∀(l:bF) (k:Nat) (a:aB),w.grownBy a (some b)->w.grownBy (a.setCells b k l) (some b)
 |[],_,_,h=>h
 |v::l,k,a,h=>Kw l (k+1) (a.setCell (aD b k) v) (Ou h k v)
def abX(A:Nat->Cm->dB->Nat->Nat->Act)(R:Nat->Cm->dB->Nat->Nat->aB->Prop)(e:Exit)(a:Act)(w:aB):Prop:=match e with| .normal=>∃g c x n k,R g c x n k w/\a=A g c x n k|_=>False
def adV{P:Program}{c:Code}{Q':Exit->Act->aB->Prop}{a:Act}{w:aB}(A:Nat->Cm->dB->Nat->Nat->Act)(R:Nat->Cm->dB->Nat->Nat->aB->Prop)(h:c.wp P (abX A R) a w)(f:∀g c x n k W,R g c x n k W->Q' .normal (A g c x n k) W):c.wp P Q' a w:=
 qM (fun e a w h=>by cases e<;>first|exact h.elim|(obtain⟨g,c,x,n,k,b,d⟩:=h;subst d;exact f g c x n k w b)) h
def H_(c:UInt8):∀s:aT,(dS c s).length<=s.length+1
 |[]=>aU _
 |x::xs=>by
  have a:=H_ c xs;rw[dS];split
  .simp;omega
  .split
   .simp
   .rename_i h;rw[h]at a;simp at a|-;omega
def Za{n:Nat}{L:List jk}{c:Cm}{f:Nat}{R:List aT}(h:c.moderated=false):fT n (.authors::L) c f R=fT n L c f R:=by
 rw[fT.eq_def];exact aG ⟨rfl,h⟩
def Xc{n:Nat}{t:jk}{L:List jk}{c:Cm}{f:Nat}(h:¬(t=.authors/\c.moderated=false)):fT n (t::L) c f []=.inl (n,4):=by
 rw[fT.eq_def];exact aF h
def ZD{n:Nat}{t:jk}{L:List jk}{c:Cm}{f:Nat}{x:aT}{R:List aT}(h:¬(t=.authors/\c.moderated=false)):fT n (t::L) c f (x::R)=if iZ t x≠0 then .inl (f+1,iZ t x)else fT n L (fJ c t x) (f+1+x.length) R:=by
 rw[fT.eq_def];exact aF h
def abC(c:Cm)(t:jk)(x:aT):(fJ c t x).kind=c.kind:=by cases t<;>rfl
def NV(c:Cm)(t:jk)(x:aT)(h:t≠.authors):(fJ c t x).mods=c.mods:=by cases t<;>first|rfl|exact absurd rfl h
def adH(w:aB)(z c:Cm)(v:Value)(a:dB)(n k:Nat):Sem.run prog (storeCells (aD (w.heap.size) 0) (aL c (.slice a n k))) (w.alloc (aC (aL z v) 66))=.ok () (w.alloc (aC (aL c (.slice a n k)) 66)):=by
 have b:=cM w (aC (aL z v) 66);have h:=yR (P:=prog) (cs:=aL c (.slice a n k)) (aP b 0 (aL c (.slice a n k)).length (by rw[cA,cA];decide)) (bE b 0 _) (J6 c a n k);rw[h];congr 1;have:=qO w 66 w.heap.size rfl [] (aL c (.slice a n k)) [] (aL z v) (by rw[cA,cA]);simpa using this
def abd{w:aB}{b:Nat}{z c:Cm}{v:Value}(h:HB w b (aL z v) 66) (a:dB) (n k:Nat):Sem.run prog (storeCells (aD b 0) (aL c (.slice a n k))) w=.ok () (w.setCells b 0 (aL c (.slice a n k))):=
 yR (aP h 0 (aL c (.slice a n k)).length (by rw[cA,cA];decide)) (bE h 0 _) (J6 c a n k)
def Hs{wr a:aB}{Z:Obj}(h:Gr (wr.alloc Z).drew a):a.heap[wr.heap.size]? =some Z:=
 (h.block (b:=wr.heap.size) (by show _<(wr.alloc Z).heap.size;simp)).trans (cM wr Z)
def DU(wr:aB)(t:jk)(c:Cm)(v:Value)(x:aT)(g:Nat)(b:Cm)(a:dB)(n k:Nat)(U:aB):Prop:=
 wr.heap.size<=g/\HB U g (aL b (.slice a n k)) 66/\Gr wr U/\(iZ t x=0->b=fJ c t x/\eR U (.slice a n k) b.mods/\(t≠.authors->Value.slice a n k=v)/\(t=.authors->∀y,a=some y->wr.heap.size<=y.block))
def Xb{wr d:aB}{t:jk}{c:Cm}{v:Value}{x:aT}{f:Cm}{a:dB}{n k:Nat}{i:aB}(j:Gr wr i)(b:Gr wr d)
  (g:iZ t x=0->f=fJ c t x/\eR d (.slice a n k) f.mods/\(t≠.authors->Value.slice a n k=v)/\(t=.authors->∀y,a=some y->i.heap.size<=y.block)):
  DU wr t c v x d.heap.size f a n k (d.alloc (aC (aL f (.slice a n k)) 66)):=
 ⟨b.size,cM _ _,b.alloc _,fun h=>by
  obtain⟨l,m,o,p⟩:=g h;exact⟨l,m.gr ((Gr.refl d).alloc _),o,fun e y q=>eu j.size (p e y q)⟩⟩
def ZM{wr g:aB}{t:jk}{c:Cm}{v:Value}{x:aT}{d:Cm}{a:dB}{n k:Nat}{Z:Obj}{D:Cm}{C:Value}(z:Z=.cells (aL D C).toArray 66)(j:eR wr v c.mods)(f:Gr (wr.alloc Z).drew g)
  (l:iZ t x=0->d=fJ c t x/\eR g (.slice a n k) d.mods/\(t≠.authors->Value.slice a n k=v)/\(t=.authors->∀y,a=some y->((wr.alloc Z).drew).heap.size<=y.block)):
  DU wr t c v x wr.heap.size d a n k (g.setCells wr.heap.size 0 (aL d (.slice a n k))):=by
 have i:Gr wr g:=(((Gr.refl wr).alloc Z).drew).trans f;have u:=Hs f;rw[z]at u;have o:=i.setsOwn (b:=wr.heap.size) (aU _) (aL d (.slice a n k)) 0;have B:((wr.alloc Z).drew).heap.size=wr.heap.size+1:=by show(wr.alloc Z).heap.size=_;simp
 refine⟨aU _,bO u (by rw[cA,cA]),o,fun h=>?_⟩;obtain⟨p,w,q,r⟩:=l h;refine⟨p,?_,q,fun e y m=>by have:=r e y m;omega⟩;by_cases e:t=.authors
 .refine bX.keep w (fun y m=>cD (by have:=r e y m;omega) _ _ _) ?_
  rw[kB];exact aU _
 .have A:d.mods=c.mods:=by rw[p,NV c t x e]
  have s:=j.gr o;rw[<-q e]at s;rw[A];exact s
def ZC(t:jk):((my t).toList==[97,117,116,104,111,114,115])=decide (t=.authors):=by
 rw[hI]
 cases t<;>decide+kernel
def Rm{w:aB}{b:Nat}{c:Cm}{v:Value}{t:TypeId}(h:HB w b (aL c v) t) (n:Int):HB (w.setCell (aD b 0) (.int .i64 n)) b (aL { c with kind:=n } v) t:=s_ h 0 _ rfl
def sy{W w:aB}{b:Nat}(a:HB W b (aL (aV 0) bB) 66) (d:Gr w W) (e:w.heap.size<=b) (c:Cm) (v:Value):
  hasRow W (aD b 0) 56=true/\gz W (aD b 0) 56=true/\Hid (HB (W.setCells b 0 (aL c v)) b (aL c v) 66)/\Hid (Gr w (W.setCells b 0 (aL c v)))/\b<W.heap.size:=
 ⟨aP a 0 56 (by rw[cA];decide),bE a 0 56,bO a (by rw[cA,cA]),d.setsOwn e _ 0,(bY.1 a).1⟩
def Yf(s:aJ)(w:aB)(hs:s.size<=1100):Calls prog 16 #[.string s] w (jX (iM (bl s)) w):=by
 have hl:=bN s;have aw:=aA (cM w (aC (aL (aV 0) bB) 66));have G0:=aA ((Gr.refl w).alloc (aC (aL (aV 0) bB) 66));by_cases ak:1000<s.size
 .have X:Hid (∀W,Gr w W->jX (iM (bl s)) w (.returned (.tuple #[aE (aL (aV 0) bB),.int .i64 0,.int .i64 5])) W):=fun W M=>by
   unfold iM;rw[aG (by omega)];exact⟨bB,rfl,jU _,M⟩
  have i1:1000<(s.size:Int):=by omega
  clear hl ak;go_in;go_wp2_with fail;refine bI (gn (p:=2) (u1:=3) (u2:=4) rfl _ _ w.heap.size _ _ _ _ rfl aw underlying66 rfl (by rw[bQ,cA];kernel_rfl)) rfl ?_;exact X _ G0
 .have i1:¬1000<(s.size:Int):=by omega
  have cu:=aA (MK s 32 32 rfl (w.alloc (aC (aL (aV 0) bB) 66)) hs);obtain⟨r,F,ar⟩:∃r F,dS 32 (bl s)=r::F:=by
   cases h:dS 32 (bl s)with
   |nil=>exact absurd h (uK 32 (bl s))
   |cons a l=>exact⟨a,l,rfl⟩
  have dj:Hid (dH (bl s) ⟨0,r.length,F,0,0⟩):=dH.start ar;have dl:Hid (F.length<=1100):=by
   show _<=_;have:=H_ 32 (bl s);rw[ar,dN]at this;omega
  have ay:Hid (iM (bl s)=match nA r with
   |some k=>ji k (bl s) (fT s.size (ge k) (aV ((k.val:Int)+1)) r.length F)
   |none=>(aV 0,0,11)):=by
   show _=_;unfold iM;rw[aF (by omega),ar,hl];rfl
  have bn:=aA (NX r);have dz:=WH r
  have bo:Hid (qD r=0->nA r=none):=fun h=>by
   unfold qD at h
   cases hk:nA r with
   |none=>rfl
   |some k=>rw[hk]at h;cases h
  have bp:Hid (qD r≠0->∃k:Fin 5,nA r=some k/\(k.val:Int)+1=(qD r:Int)):=fun h=>by
   unfold qD at h|-
   cases hk:nA r with
   |none=>rw[hk]at h;exact absurd rfl h
   |some k=>exact⟨k,rfl,by simp⟩
  generalize qD r=D at*
  go_in;go_wp2_with fail;refine cu.mono ?_;rintro e W ⟨l,v,rfl,ad,hO,M⟩;obtain⟨a0,c0,rfl,hj⟩:=hO.slice;rw[ar]at ad;have b0:=aA ((M.block (bY.1 aw).1).trans aw);have GW:=aA (G0.trans M);have ap:0<l.length:=by
   have:=ei List.length ad;simp at this;omega
  obtain⟨Z,rfl,a7,d4⟩:=hj 0 ap
  have HJ:Hid (∀j (hj:j<l.length),W.cell? (aD Z j)=some (.string l[j])):=fun j dq=>by
   obtain⟨g',e,_,h⟩:=hj j dq
   cases e;exact h
  have co:Hid (∀j (hj:j<l.length),∀x,(r::F)[j]? =some x->bl l[j]=x):=fun j hj x hx=>by
   rw[<-ad,fo,cO hj]at hx;simpa using hx
  have ax:Hid (l.length=F.length+1):=by
   show _=_;have:=ei List.length ad;simpa using this
  have c6:Hid (bl l[0]=r):=co 0 ap r rfl
  have dh:Hid (∀j (hj:j<l.length),l[j].size<=1100):=fun j hj=>by
   have hm:bl l[j]∈dS 32 (bl s):=by rw[ar,<-ad];exact iQ.2 ⟨_,kA hj,rfl⟩
   have:=CT _ _ (aU _) _ hm;rw[bN,hl]at this;omega
  have zW:w.heap.size<W.heap.size:=(bY.1 b0).1;have dc:=aA ((((Gr.refl W).alloc (aC (aL (aV 0) bB) 66)).block zW).trans b0);have B1:=aA (cM W (aC (aL (aV 0) bB) 66));have G1:=aA ((Gr.refl W).alloc (aC (aL (aV 0) bB) 66));generalize d8:l[0]=l0 at*
  have cn:=aA d8;clear d8 hj ad hO M cu aw G0 d4 hl ak;go_wp2_with fail
  go_loopw [7] (fun i wr=>∃i':Nat,1<=i'/\i'<=6/\i=.int .i64 (i':Int)/\Hid (Gr W wr)/\Hid (HB wr (w.heap.size) (aL (aV 0) bB) 66)/\Hid (HB wr (W.heap.size) (aL (aV (if D<i' then(D:Int)else 0)) bB) 66)) (fun i _=>6-(intOf i).toNat)
  .exact⟨1,aU _,by omega,rfl,G1,dc,by
   show _=_;have:(if D<1 then(D:Int)else 0)=0:=by split<;>omega
   rw[this];exact B1⟩
  .
   obtain⟨i,dp,e7,rfl,N,d,C⟩:=hrel;have b2:wr.cell? (aD Z 0)=some (.string l0):=by
    have:=HJ 0 ap;rw[cn.out]at this;exact(N.cell (p:=⟨Z,0,none⟩) a7).trans this
   have zg:Z<wr.heap.size:=dQ a7 N.size
   by_cases bd:i<=5
   .have q1:(i:Int)<=5:=by omega
    have bt:Hid (∀p:GD,Calls prog 37 #[.int .i64 (i:Int)] (gw wr p) fun e dv=>e=.returned (.string (nE i))/\∃q:GD,dv=gw wr q):=fun p=>eE (UM i _);have bb:=bn i dp bd;by_cases ca:D=i
    .have ao:nE i=l0:=tG ((bb.2 ca).trans c6.symm)
     rw[ao]at bt;subst ca;have bq:Hid ((if D<D+1 then(D:Int)else 0)=(D:Int)):=aG (xO _);clear bb ao;go_wp2_with fail;refine ej (by kernel_rfl) (by kernel_rfl) ?_;repeat (go_big_quiet_step ((go_at_call 37;with_reducible exact bt.out _)))
     refine cX ?_;rintro _ ⟨p,rfl⟩;have gU:=cK wr p;have u0:=(gU.block (bY.1 d).1).trans d;have u1:=(gU.block (bY.1 C).1).trans C;have GU:=aA (N.trans gU);clear gU b2 zg N d C;generalize gw wr p=U at*
     obtain⟨k0,-,-,-,-,-,-,-,-,-,-,-,-,-,-,-,zu⟩:=iX u1;have f0:=ee u1 0;have aj:=aA (Rm u1 (D:Int));have ai:=aA ((cG U (aD (W.heap.size) 0) w.heap.size (.int .i64 (D:Int)) (by show w.heap.size≠W.heap.size;omega)).trans u0);have ag:=aA (GU.setOwn (b:=W.heap.size) (o:=0) (aU _) (.int .i64 (D:Int)));clear u0 u1;go_wp2_with fail;go_roundw
     .exact⟨D+1,by omega,by omega,by go_num,ag,ai,by show _=_;rw[bq.out];exact aj⟩
     .simp[intOf];omega
    .have ao:¬bl (nE i)=bl l0:=fun h=>ca (bb.1 (h.trans c6))
     have y1:((nE (i:Int)).toList==l0.toList)=false:=by rw[hI,hI,dI];exact ao
     have bq:Hid ((if D<i+1 then(D:Int)else 0)=(if D<i then(D:Int)else 0)):=by
      show _=_;by_cases h:D<i
      .rw[aG h,aG (by omega)]
      .rw[aF h,aF (by omega)]
     clear bb ao;generalize nE (i:Int)=ks at*
     go_wp2_with fail;refine ej (by kernel_rfl) (by kernel_rfl) ?_;repeat (go_big_quiet_step ((go_at_call 37;with_reducible exact bt.out _)))
     refine cX ?_;rintro _ ⟨p,rfl⟩;have gU:=cK wr p;have ai:=aA ((gU.block (bY.1 d).1).trans d);have aj:=aA ((gU.block (bY.1 C).1).trans C);have ag:=aA (N.trans gU);clear gU b2 zg N d C;generalize gw wr p=U at*
     go_wp2_with fail;go_roundw
     .exact⟨i+1,by omega,by omega,by go_num,ag,ai,by show _=_;rw[bq.out];exact aj⟩
     .simp[intOf];omega
   .have hi:i=6:=by omega
    have q1:¬(i:Int)<=5:=by omega
    rw[aG (by omega:D<i)]at C;obtain⟨k0,-,-,-,-,-,-,-,-,-,-,-,-,-,-,-,zu⟩:=iX C.out;have bk:=aA (GW.trans N);have du:wr.cell? (aD (W.heap.size) 0)=some (.int .i64 (D:Int)):=k0;clear hi k0;by_cases b9:D=0
    .have HK:=aA (bo b9)
     subst b9;obtain⟨r0,f0,HS,GS,z0⟩:=sy (w:=w) d.out bk.out (aU _) (aV 0) bB
     have X:Hid (∀H,Gr w H->jX (iM (bl s)) w (.returned (.tuple #[aE (aL (aV 0) bB),.int .i64 0,.int .i64 11])) H):=fun H M=>by
      rw[ay.out,HK.out];exact⟨bB,rfl,jU _,M⟩
     clear ay HK bn bp bo N d C;go_wp2_with fail;refine bI (gn (p:=2) (u1:=3) (u2:=4) rfl _ _ w.heap.size _ _ _ _ rfl HS underlying66 rfl (by rw[bQ,cA];kernel_rfl)) rfl ?_;exact X _ GS
    .obtain⟨k,hk,bc⟩:=bp.out b9
     have c1:=aA (Y9 k wr);rw[bc]at c1;have HR:Hid (iM (bl s)=ji k (bl s) (fT s.size (ge k) (aV (D:Int)) r.length F)):=by
      show _=_;rw[ay.out,hk];simp only;rw[bc]
     have br:Hid (∀i,(ge k).drop i=.authors::(ge k).drop (i+1)->jk.authors ∉ (ge k).drop (i+1)):=fun i=>by
      have:∀k:Fin 5,∀i:Fin 5,(ge k).drop i.val=.authors::(ge k).drop (i.val+1)->jk.authors ∉ (ge k).drop (i.val+1):=by decide
      intro h;by_cases hi:i<5
      .exact this k ⟨i,hi⟩ h
      .have hl:(ge k).length<=4:=by
        have:∀k:Fin 5,(ge k).length<=4:=by decide
        exact this k
       rw[jn (by omega)]at h;cases h
     have cm:Hid (k=2↔(D:Int)=3):=by
      show _↔_;rw[<-bc];constructor
      .rintro rfl;rfl
      .intro h;apply Fin.ext;show k.val=2;omega
     have dg:Hid ((ge k).length<=4):=by
      have:∀k:Fin 5,(ge k).length<=4:=by decide
      exact this k
     have bf:=aA (show l0.size=r.length by rw[<-c6.out,bN])
     have yk:((D:Int)==0)=false:=by simp;omega
     have b2:wr.cell? (aD Z 0)=some (.string l0):=by
      have:=HJ 0 ap;rw[cn.out]at this;exact(N.cell (p:=⟨Z,0,none⟩) a7).trans this
     have zg:Z<wr.heap.size:=dQ a7 N.size
     rw[<-bf.out]at HR;have bh:=dj;rw[<-bf.out]at bh;clear ay bn bp bo hk bc b9;go_wp2_with fail;refine c1.mono ?_;rintro e W2 ⟨v2,rfl,c8,an⟩;obtain⟨a2,c2,rfl,d7⟩:=c8.slice;have cb:((ge k).map my).length=(ge k).length:=cL _;rw[cb]
     have cl:Hid (∀j (hj:j<(ge k).length),∃g,a2=some (aD g 0)/\g<W2.heap.size/\W.heap.size<g/\W2.cell? (aD g j)=some (.string (my (ge k)[j]))):=fun j hj=>by
      obtain⟨g,rfl,h1,h2⟩:=d7 j (by rw[cb];exact hj);refine⟨g,rfl,h1,?_,by rw[h2,ig]⟩;have:=(fA c8 g rfl).1;omega
     have v0:=aA ((an.block (bY.1 d).1).trans d);have v1:=aA ((an.block (bY.1 C).1).trans C);have GV:=aA (bk.trans an);have bm:=aA (N.trans an);clear d7 c8 cb N d C an bk b2 zg du c1;generalize dn:ge k=K at*
     clear dn zu;generalize d1:fT s.size K (aV (D:Int)) l0.size F=R0 at*
     have dk:=aA d1;clear d1;go_wp2_with fail
     go_loopw [8,9,11] (fun sf sn si wr=>∃(i f n:Nat) (c:Cm) (a:dB) (m I:Nat),i<=K.length/\si=.int .i64 (i:Int)/\sf=.int .i64 (f:Int)/\sn=.int .i64 (n:Int)/\1<=n/\n<=l.length/\Hid (c.kind=(D:Int))/\Hid (dH (bl s) ⟨0,f,(r::F).drop n,0,0⟩)/\Hid (fT s.size (K.drop i) c f ((r::F).drop n)=R0)/\Hid (Gr w wr)/\Hid (W2.grownBy wr (some W.heap.size))/\Hid (HB wr (w.heap.size) (aL (aV 0) bB) 66)/\Hid (HB wr (W.heap.size) (aL c (.slice a m I)) 66)/\Hid (eR wr (.slice a m I) c.mods)/\Hid (jk.authors∈K.drop i->c.mods=[]/\Value.slice a m I=bB)/\Hid (∀y,a=some y->W.heap.size<y.block)) (fun _ _ si _=>K.length-(intOf si).toNat)
     .exact⟨0,l0.size,1,aV (D:Int),none,0,0,bW _,rfl,rfl,rfl,aU _,ap,rfl,bh,dk,GV,dW (Gr.refl _),v0,v1,jU _,fun _=>⟨rfl,rfl⟩,fun y hy=>by cases hy⟩
     .
      obtain⟨i,f,n,c,a,m,I,hi,rfl,rfl,rfl,dr,ds,b6,Q,B,N,ab,d,C,am,a3,al⟩:=hrel;have J:=C.out;obtain⟨k0,-,-,b3,-,-,-,-,-,-,-,-,-,-,r6,q6,z6⟩:=iX J;rw[b6.out]at k0;have zb:=(bY.1 d).1;have e6:f<=s.size:=by have:=Q.1;rw[bN]at this;exact this
      have e8:l.length<=1101:=by have:=ax.out;have:=dl.out;omega
      have dx:=dg.out
      have E:∀j (hj:j<l.length),wr.cell? (aD Z j)=some (.string l[j]):=fun j hj=>by
       rw[<-HJ.out j hj];have h1:=ab.block Z (dQ a7 bm.size) (by intro e;injection e with e;omega);have h2:=bm.block a7;unfold World.cell?;rw[h1,h2]
      have db:Z<wr.heap.size:=dQ (dQ a7 bm.size) ab.size;by_cases bd:i<K.length
      .obtain⟨g2,rfl,h1,h2,h3⟩:=cl.out i bd
       have dm:wr.cell? (aD g2 i)=some (.string (my K[i])):=by
        rw[<-h3];have:=ab.block g2 h1 (by intro e;injection e with e;omega);unfold World.cell?;rw[this]
       have dw:g2<wr.heap.size:=dQ h1 ab.size;have a6:K.drop i=K[i]::K.drop (i+1):=kR bd;have bg:Hid (K[i]=.authors->jk.authors ∉ K.drop (i+1)):=fun e=>br i (by rw[a6,e]);rw[a6]at B a3;have q1:(i:Int)<(K.length:Int):=by omega
       have q2:=nn i
       generalize K[i]=t at*
       have cd:=ZC t;clear h3 a6;by_cases aq:t=.authors/\c.moderated=false
       .obtain⟨rfl,hm⟩:=aq
        rw[hm]at b3;have bx:Hid (fT s.size (K.drop (i+1)) c f ((r::F).drop n)=R0):=(Za hm).symm.trans B;have dd:Hid (jk.authors∈K.drop (i+1)->c.mods=[]/\Value.slice a m I=bB):=fun h=>a3 (ul _ h);rw[fm rfl]at cd;generalize my .authors=sx at*
        clear B a3 E J k0 r6 q6;go_wp2_with fail;go_roundw
        .exact⟨i+1,f,n,c,a,m,I,by omega,by go_num,rfl,rfl,dr,ds,b6,Q,bx,N,ab,d,C,am,dd,al⟩
        .simp[intOf];omega
       .have aa:(decide (t=.authors)=false)\/(decide (t=.authors)=true/\c.moderated=true):=by
         by_cases e:t=.authors
         .right
          refine⟨fm e,?_⟩
          cases hm:c.moderated with
          |true=>rfl
          |false=>exact absurd ⟨e,hm⟩ aq
         .left;exact eL e
        by_cases L:n=l.length
        .have O:(r::F).drop n=[]:=jn (by rw[L,ax.out];simp)
         have Y:Hid (R0=.inl (s.size,4)):=by
          show _=_;rw[<-B.out,O];exact Xc aq
         have X:Hid (∀H,Gr w H->jX (iM (bl s)) w (.returned (.tuple #[aE (aL (aV 0) bB),.int .i64 (s.size:Int),.int .i64 4])) H):=fun H M=>by
          rw[HR.out,Y.out];exact⟨bB,rfl,jU _,M⟩
         obtain⟨r0,f0,HS,GS,z0⟩:=sy (w:=w) d.out N.out (aU _) (aV 0) bB;have q5:((n:Int)==(l.length:Int))=true:=by simp;omega
         clear B a3 E J k0 r6 q6 O aq L b6 Q HR Y br bg;rcases aa with hd|⟨hd,hm⟩
         all_goals
          rw[hd]at cd;try rw[hm]at b3
          generalize my t=sx at*
          clear hd;try clear hm
          go_wp2_with fail;refine bI (gn (p:=2) (u1:=3) (u2:=4) rfl _ _ w.heap.size _ _ _ _ rfl HS underlying66 rfl (by rw[bQ,cA];kernel_rfl)) rfl ?_;exact X _ GS
        .have be:n<l.length:=by omega
         have ci:Hid ((r::F).drop n=bl l[n]::(r::F).drop (n+1)):=by
          show _=_;have d9:n<(r::F).length:=by rw[dN,<-ax.out];exact be
          rw[kR d9,co.out n be _ (cO d9)]
         have dt:=dh n be;have cw:=E n be;have HWC:Hid (∀U,Gr wr U->Calls prog 39 #[aE (aL c (.slice a m I)),.string (my t),.string l[n]] U (lO t c (.slice a m I) (bl l[n]) U)):=fun U hU=>Si t c _ l[n] U (am.gr hU) (fun e=>a3 (by rw[e];exact xN ..)) dt;unfold lO at HWC;have q5:((n:Int)==(l.length:Int))=false:=by simp;omega
         have eb:(n:Int)<(l.length:Int):=by omega
         have q7:=nn n
         rw[ci.out]at B Q;have a9:Hid ((if iZ t (bl l[n])≠0 then Sum.inl (f+1,iZ t (bl l[n]))else fT s.size (K.drop (i+1)) (fJ c t (bl l[n])) (f+1+(bl l[n]).length) ((r::F).drop (n+1)))=R0):=(ZD aq).symm.trans B;have bw:Hid (dH (bl s) ⟨0,f+1+(bl l[n]).length,(r::F).drop (n+1),0,0⟩):=(Q.cut rfl).2.1;have b1:Hid ((bl l[n]).length=l[n].size):=bN _;clear B Q E L J ci;generalize l[n]=x at*
         generalize my t=sx at*
         have KS:Hid (∀U,Gr wr U->hasRow U (aD (W.heap.size) 0) 56=true/\rowAt U (aD (W.heap.size) 0) 56=aL c (.slice a m I)/\U.cell? (aD g2 i)=some (.string sx)/\U.cell? (aD Z n)=some (.string x)):=fun U h=>⟨(h.hasRow z6).trans r6,(h.rowAt z6).trans q6,(h.cell (p:=⟨g2,i,none⟩) dw).trans dm,(h.cell (p:=⟨Z,n,none⟩) db).trans cw⟩;have g0:=(Gr.refl wr).drew;have c7:=fun o=>((Gr.refl wr).alloc o).drew;rcases aa with hd|⟨hd,hm⟩
         all_goals
          rw[hd]at cd;try rw[hm]at b3
          clear hd;try clear hm
          go_wp2_with fail;apply adV (R:=DU wr t c (.slice a m I) (bl x))
          case h=>
           go_region_held_law (fun u=>hasRow u (aD (W.heap.size) 0) 56=true/\rowAt u (aD (W.heap.size) 0) 56=aL c (.slice a m I)/\u.cell? (aD g2 i)=some (.string sx)/\u.cell? (aD Z n)=some (.string x))
            (first|with_reducible exact KS.out _ g0|with_reducible exact KS.out _ (c7 _)|with_reducible exact KS.out _ b4|with_reducible exact KS.out _ (b4.alloc _)|with_reducible exact KS.out _ (b4.setsOwn (aU _) _ 0))
            (first|(go_at_call 39;with_reducible refine(HWC.out _ (by first|with_reducible exact g0|with_reducible exact c7 _)).mono ?_;rintro e w5 ⟨c5,a5,n5,k5,rfl,bj,b7⟩;have b4:Gr wr w5:=(by first|exact g0.trans b7|exact(c7 _).trans b7);(try (have e9:=abd (z:=aV 0) (v:=bB) (c:=c5) (Hs b7) a5 n5 k5));have ea:=adH w5 (aV 0) c5 bB a5 n5 k5))
           .obtain⟨g,M⟩:=ex w5.heap.size
            rw[M];exact⟨g,c5,a5,n5,k5,by rw[<-M];exact Xb g0 b4 bj,rfl⟩
           .exact⟨wr.heap.size,c5,a5,n5,k5,ZM rfl am b7 bj,rfl⟩
          rintro g c' a' n' k' U ⟨d5,b8,a4,da⟩;have bu:=aA da;have u0:=(a4.block zb).trans d;have u1:=(a4.block z6).trans C;have GU:=aA (N.trans a4);clear da;by_cases he:iZ t (bl x)=0
          .obtain⟨b5,d2,cc,d3⟩:=bu.out he
           have bx:Hid (fT s.size (K.drop (i+1)) c' (f+1+x.size) ((r::F).drop (n+1))=R0):=by
            have:=a9.out;rw[aF (fun q=>q he),b1.out]at this;rw[b5];exact this
           have cr:Hid (dH (bl s) ⟨0,f+1+x.size,(r::F).drop (n+1),0,0⟩):=by
            have:=bw.out;rwa[b1.out]at this
           have de:=aA (show c'.kind=(D:Int) by rw[b5,abC];exact b6)
           have cf:Hid (∀y,a'=some y->W.heap.size<y.block):=fun y hy=>by
            by_cases e:t=.authors
            .have:=d3 e y hy;omega
            .have:=cc e
             injection this with e1;exact al y (by rw[<-e1];exact hy)
           have cg:Hid (jk.authors∈K.drop (i+1)->c'.mods=[]/\Value.slice a' n' k'=bB):=fun hm=>by
            by_cases e:t=.authors
            .exact absurd hm (bg e)
            .rw[b5,NV c t (bl x) e,cc e]
             exact a3 (ul _ hm)
           have rg:=aP b8 0 56 (by rw[cA];decide);have qg:=(bJ b8 0 56 (by rw[cA];decide)).trans (vy c' (.slice a' n' k'));have rb:=aP u1 0 56 (by rw[cA];decide);have fb:=bE u1 0 56;have aj:=aA (bO (cs:=aL c' (.slice a' n' k')) u1 (by rw[cA,cA]));have ai:=aA ((cD (b:=W.heap.size) (i:=w.heap.size) (by omega) (aL c' (.slice a' n' k')) 0 U).trans u0);have ag:=aA (GU.setsOwn (b:=W.heap.size) (pz zW) (aL c' (.slice a' n' k')) 0);have df:=aA (Kw (aL c' (.slice a' n' k')) 0 U (dG ab (dW a4)));have ae:Hid (eR (U.setCells W.heap.size 0 (aL c' (.slice a' n' k'))) (.slice a' n' k') c'.mods):=by
            refine bX.keep d2 (fun y hy=>cD (by have:=cf y hy;omega) _ _ _) ?_;rw[kB];exact aU _
           have e2:(U.setCells W.heap.size 0 (aL c' (.slice a' n' k'))).cell? (aD Z n)=some (.string x):=by
            rw[<-cw,<-a4.cell (p:=⟨Z,n,none⟩) db];have:=cD (b:=W.heap.size) (i:=Z) (by omega) (aL c' (.slice a' n' k')) 0 U;unfold World.cell?;rw[this]
           have w9:f+1+x.size<=10000:=by omega
           clear bu b5 d2 cc d3 u0 u1 b8 d5 a4 GU a9 bw b1;rw[he];clear he;go_wp2_with fail;go_roundw
           .exact⟨i+1,f+1+x.size,n+1,c',a',n',k',by omega,by go_num,by go_num,by go_num,by omega,by omega,de,cr,bx,ag,df,ai,aj,ae,cg,cf⟩
           .simp[intOf];omega
          .have Y:Hid (R0=.inl (f+1,iZ t (bl x))):=by
            show _=_;rw[<-a9.out,aG he]
           have X:Hid (∀H,Gr w H->jX (iM (bl s)) w (.returned (.tuple #[aE (aL (aV 0) bB),.int .i64 ((f:Int)+1),.int .i64 (iZ t (bl x))])) H):=fun H M=>by
            rw[HR.out,Y.out];exact⟨bB,by simp[ji],jU _,M⟩
           obtain⟨r0,f0,HS,GS,z0⟩:=sy (w:=w) u0 GU.out (aU _) (aV 0) bB;have y1:(iZ t (bl x)==0)=false:=by simpa using he
           have y2:(iZ t (bl x) != 0)=true:=by simpa using he
           clear bu u0 u1 b8 d5 a4 a9 bw b1 HR Y he;generalize iZ t (bl x)=er at*
           go_wp2_with fail;refine bI (gn (p:=2) (u1:=3) (u2:=4) rfl _ _ w.heap.size _ _ _ _ rfl HS underlying66 rfl (by rw[bQ,cA];kernel_rfl)) rfl ?_;exact X _ GS
      .have d6:K.drop i=[]:=jn (by omega)
       rw[d6]at B;have dy:¬(i:Int)<(K.length:Int):=by omega
       have Y:Hid (R0=.inr (c,f,(r::F).drop n)):=B.symm;have af:=aA (show iM (bl s)=ji k (bl s) (.inr (c,f,(r::F).drop n)) by rw[HR.out,Y.out])
       have bi:(r::F).length=l.length:=by rw[ax.out,dN]
       clear d6 B HR Y E br cl a3;by_cases L:n=l.length
       .have O:(r::F).drop n=[]:=jn (by omega)
        rw[O]at af;have cj:Hid (iM (bl s)=(c,0,0)):=af;have q5:((n:Int)==(l.length:Int))=true:=by simp;omega
        obtain⟨r0,f0,HS,GS,z0⟩:=sy (w:=w) d.out N.out (aU _) c (.slice a m I);have ae:Hid (eR (wr.setCells w.heap.size 0 (aL c (.slice a m I))) (.slice a m I) c.mods):=by
         refine bX.keep am (fun y hy=>cD (by have:=al y hy;omega) _ _ _) ?_;rw[kB];exact aU _
        have X:Hid (jX (iM (bl s)) w (.returned (.tuple #[aE (aL c (.slice a m I)),.int .i64 0,.int .i64 0])) (wr.setCells w.heap.size 0 (aL c (.slice a m I)))):=by
         rw[cj.out];exact⟨_,rfl,ae,GS⟩
        clear af cj O L Q bi;go_wp2_with fail;refine bI (gn (p:=2) (u1:=3) (u2:=4) rfl _ _ w.heap.size _ _ _ _ rfl HS underlying66 rfl (by rw[bQ,cA];kernel_rfl)) rfl ?_;exact X
       .have O:(r::F).drop n≠[]:=by
         intro e;have:=ei List.length e;rw[eh]at this;simp only[iJ]at this;omega
        have e5:f<s.size:=by have:=(Jo Q).2 O;rwa[bN]at this
        have q5:((n:Int)==(l.length:Int))=false:=by simp;omega
        have a8:Hid (iM (bl s)=if k≠2 then(aV 0,f,5)else if kT ((bl s).drop (f+1))≠0 then(aV 0,f+1,kT ((bl s).drop (f+1)))else({ c with text:=bs ((bl s).drop (f+1)) },0,0)):=af.trans (aF O);clear af O L Q bi;by_cases ac:(D:Int)=3
        .have ba:k=2:=cm.2 ac
         have G:Hid (iM (bl s)=if kT ((bl s).drop (f+1))≠0 then(aV 0,f+1,kT ((bl s).drop (f+1)))else({ c with text:=bs ((bl s).drop (f+1)) },0,0)):=a8.trans (aF (fun q=>q ba))
         have y4:((D:Int) != 3)=false:=by simp[ac]
         have c4:=B9 s (f+1);have a1:Hid (kT ((bl s).drop (f+1))=if bl (s.extract (f+1) s.size)=[]then 4 else kY (bl (s.extract (f+1) s.size))):=by
          show _=_;unfold kT;rw[c4]
         have ch:=aA (show bs ((bl s).drop (f+1))=s.extract (f+1) s.size by rw[<-c4,CO])
         have az:=hI (s.extract (f+1) s.size);rw[ch.out]at G;have p1:(0:Int)<=(f:Int)+1:=by omega
         have p2:(f:Int)+1<=(s.size:Int):=by omega
         have p3:((f:Int)+1).toNat=f+1:=by omega
         have c3:=aA (Tz (s.extract (f+1) s.size));obtain⟨-,-,-,-,-,d0,-,-,-,-,-,-,-,-,-,-,-⟩:=iX J;have e3:=ee J 37;have c9:=LE J (s.extract (f+1) s.size);obtain⟨-,-,-,-,-,cv,-,-,-,-,-,-,-,-,-,-,ez⟩:=iX c9;have cx:=(cG wr (aD (W.heap.size) 37) w.heap.size (.string (s.extract (f+1) s.size)) (by show w.heap.size≠W.heap.size;omega)).trans d;have cz:=N.setOwn (b:=W.heap.size) (o:=37) (pz zW) (.string (s.extract (f+1) s.size));have cy:eR (wr.setCell (aD (W.heap.size) 37) (.string (s.extract (f+1) s.size))) (.slice a m I) c.mods:=by
          refine bX.keep am (fun y hy=>cG wr (aD (W.heap.size) 37) y.block _ (by have:=al y hy;show y.block≠W.heap.size;omega)) ?_;simp
         have ah:=aA cx;have cq:=aA c9;have bv:=aA cz;have di:=aA cy;clear a8 ch c4 ac cx c9 cz cy r6 q6 b3;generalize e4:s.extract (f+1) s.size=T at*
         by_cases hT:bl T=[]
         .have ct:=aA (show kT ((bl s).drop (f+1))=4 by rw[a1.out,aG hT])
          have S:=aA (show iM (bl s)=(aV 0,f+1,4) by rw[G.out,ct.out];rfl)
          have t1:T.toList=[]:=by rw[az,hT]
          have t2:T.toList.isEmpty=true:=by rw[t1];rfl
          obtain⟨r0,f0,HS,GS,z0⟩:=sy (w:=w) ah.out bv.out (aU _) (aV 0) bB
          have X:Hid (∀H,Gr w H->jX (iM (bl s)) w (.returned (.tuple #[aE (aL (aV 0) bB),.int .i64 ((f:Int)+1),.int .i64 4])) H):=fun H M=>by
           rw[S.out];exact⟨bB,by simp,jU _,M⟩
          clear G a1 ct S az hT c3;go_wp2_with fail;refine bI (gn (p:=2) (u1:=3) (u2:=4) rfl _ _ w.heap.size _ _ _ _ rfl HS underlying66 rfl (by rw[bQ,cA];kernel_rfl)) rfl ?_;exact X _ GS
         .have t1:¬T.toList=[]:=by rw[az];exact hT
          have t2:T.toList.isEmpty=false:=by simpa using t1
          rw[aF hT]at a1;generalize kY (bl T)=te at*
          clear hT az;by_cases au:te=0
          .have S:=aA (show iM (bl s)=({ c with text:=T },0,0) by rw[G.out,a1.out,aF (fun q=>q au)])
           subst au;go_wp2_with fail;refine bA (c3 _) fun V P=>?_;have av:=(P.block (bY.1 ah).1).trans ah;have ce:=(P.block (bY.1 cq).1).trans cq;have r6:=aP ce 0 56 (by rw[cA];decide);have q6:=(bJ ce 0 56 (by rw[cA];decide)).trans (vy { c with text:=T } (.slice a m I));obtain⟨r0,f0,HS,GS,z0⟩:=sy (w:=w) av (bv.out.trans P) (aU _) { c with text:=T } (.slice a m I);have ae:Hid (eR (V.setCells w.heap.size 0 (aL { c with text:=T } (.slice a m I))) (.slice a m I) c.mods):=by
            refine bX.keep (di.gr P) (fun y hy=>cD (by have:=al y hy;omega) _ _ _) ?_;rw[kB];exact aU _
           have X:Hid (jX (iM (bl s)) w (.returned (.tuple #[aE (aL { c with text:=T } (.slice a m I)),.int .i64 0,.int .i64 0])) (V.setCells w.heap.size 0 (aL { c with text:=T } (.slice a m I)))):=by
            rw[S.out];exact⟨_,rfl,ae,GS⟩
           clear S G a1 P av ce cv ez;go_wp2_with fail;refine bI (gn (p:=2) (u1:=3) (u2:=4) rfl _ _ w.heap.size _ _ _ _ rfl HS underlying66 rfl (by rw[bQ,cA];kernel_rfl)) rfl ?_;exact X
          .have S:=aA (show iM (bl s)=(aV 0,f+1,te) by rw[G.out,a1.out,aG au])
           have y6:(te != 0)=true:=by simpa using au
           clear au;go_wp2_with fail;refine bA (c3 _) fun V P=>?_;have av:=(P.block (bY.1 ah).1).trans ah;obtain⟨r0,f0,HS,GS,z0⟩:=sy (w:=w) av (bv.out.trans P) (aU _) (aV 0) bB
           have X:Hid (∀H,Gr w H->jX (iM (bl s)) w (.returned (.tuple #[aE (aL (aV 0) bB),.int .i64 ((f:Int)+1),.int .i64 te])) H):=fun H M=>by
            rw[S.out];exact⟨bB,by simp,jU _,M⟩
           clear S G a1 P av cv ez;go_wp2_with fail;refine bI (gn (p:=2) (u1:=3) (u2:=4) rfl _ _ w.heap.size _ _ _ _ rfl HS underlying66 rfl (by rw[bQ,cA];kernel_rfl)) rfl ?_;exact X _ GS
        .have ba:k≠2:=fun h=>ac (cm.1 h)
         have ck:Hid (iM (bl s)=(aV 0,f,5)):=a8.trans (aG ba)
         have y4:((D:Int) != 3)=true:=by simpa using ac
         obtain⟨r0,f0,HS,GS,z0⟩:=sy (w:=w) d.out N.out (aU _) (aV 0) bB
         have X:Hid (∀H,Gr w H->jX (iM (bl s)) w (.returned (.tuple #[aE (aL (aV 0) bB),.int .i64 (f:Int),.int .i64 5])) H):=fun H M=>by
          rw[ck.out];exact⟨bB,rfl,jU _,M⟩
         clear a8 ck ac ba;go_wp2_with fail;refine bI (gn (p:=2) (u1:=3) (u2:=4) rfl _ _ w.heap.size _ _ _ _ rfl HS underlying66 rfl (by rw[bQ,cA];kernel_rfl)) rfl ?_;exact X _ GS
end
end Go.Proofs.YtjfaogajmoffoaaGreatDoor
