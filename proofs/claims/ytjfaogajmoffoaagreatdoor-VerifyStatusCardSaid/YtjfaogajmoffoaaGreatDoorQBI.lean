/- Lemmas for VerifyStatus. -/
import Derived.Test.YtjfaogajmoffoaaGreatDoorQBE
set_option maxRecDepth 100000
set_option maxHeartbeats 16000000
set_option linter.all false
namespace Go.Proofs.YtjfaogajmoffoaaGreatDoor
open Go.RowKit Tryz
def qQ(c:UInt8):Bool:=decide (c<32)||decide (126<c)
def NS(c:UInt8):qQ c=false↔32<=c.toNat/\c.toNat<=126:=by
 unfold qQ;rw[xK,ou,ou,q9,q9];have a:(32:UInt8).toNat=32:=rfl;have b:(126:UInt8).toNat=126:=rfl;omega
def Pm{s:aJ}(h:0<s.size):(bl s).head? =some s[0]:=by
 rw[List.head?_eq_getElem?,cO (by rw[bN];exact h)];rfl
def adj{s:aJ}(h:0<s.size):(bl s).getLast? =some (s[s.size-1]'(by omega)):=by
 rw[List.getLast?_eq_getElem?,bN,cO (by rw[bN];omega)];rfl
def Tz(s:aJ)(w:aB):Calls prog 40 #[.string s] w (RG w (.int .i64 (kY (bl s)))):=by
 have r:=bN s;by_cases S:200<s.size
 .have F:=aA (show kY (bl s)=5 by unfold kY;rw[aG (by omega)])
  have M:200<(s.size:Int):=by omega
  go_in;go_wp2_with fail;go_ret;exact⟨eJ F.symm,Gr.refl _⟩
 .have M:¬200<(s.size:Int):=by omega
  have q:Hid (∀k (d:k<s.size),qQ s[k]=true->kY (bl s)=6):=fun k d f=>by
   unfold kY;rw[aF (by omega),aG];refine mD.2 ⟨s[k],?_,f⟩;have e:(bl s)[k]'(by rw[r];exact d)=s[k]:=rfl
   rw[<-e];exact kA _
  have p:Hid ((∀k (d:k<s.size),qQ s[k]=false)->kY (bl s)=if(bl s).head? =some 32\/(bl s).getLast? =some 32 then 3 else 0):=fun a=>by
   unfold kY;rw[aF (by omega),aF];intro H;obtain⟨c,m,hb⟩:=mD.1 H;obtain⟨k,d,rfl⟩:=pD m;have:=a k (by rw[<-r];exact d);have e:(bl s)[k]=s[k]'(by rw[<-r];exact d):=rfl
   rw[e]at hb;unfold qQ at this;rw[this]at hb;cases hb
  go_in;go_wp2_with fail
  go_loop [3,7,8,9,10,11,12,13,14,15,16,17,18,19,20,21,22] (fun i _ _ _ _ _ _ _ _ _ _ _ _ _ _ _ _=>∃k:Nat,k<=s.size/\i=.int .i64 k/\Hid (∀j (n:j<s.size),j<k->qQ s[j]=false)) (fun i _ _ _ _ _ _ _ _ _ _ _ _ _ _ _ _=>s.size-(intOf i).toNat)
  .exact⟨0,bW _,rfl,fun j _ h=>absurd h (by omega)⟩
  .
   obtain⟨k,d,rfl,a⟩:=hrel;by_cases v:k<s.size
   .have u:(k:Int)<(s.size:Int):=by omega
    have J:=nn k
    by_cases f:qQ s[k]=true
    .have b:=aA (q k v f)
     have m:s[k].toNat<32\/126<s[k].toNat:=by
      have:=mt (NS s[k]).2 (by rw[f];decide);omega
     rcases m with m|m
     .have t:(s[k].toNat:Int)<32:=by omega
      go_wp2_with fail;go_ret;exact⟨eJ b.symm,Gr.refl _⟩
     .have t:¬(s[k].toNat:Int)<32:=by omega
      have y:126<(s[k].toNat:Int):=by omega
      go_wp2_with fail;go_ret;exact⟨eJ b.symm,Gr.refl _⟩
    .have g:qQ s[k]=false:=by simpa using f
     obtain⟨N,O⟩:=(NS s[k]).1 g;have t:¬(s[k].toNat:Int)<32:=by omega
     have y:¬126<(s[k].toNat:Int):=by omega
     have E:Hid (∀j (n:j<s.size),j<k+1->qQ s[j]=false):=fun j n I=>by
      by_cases e:j=k
      .subst e;exact g
      .exact a j n (by omega)
     go_wp2_with fail
     go_round
     .exact⟨k+1,by omega,by go_num,E⟩
     .simp[intOf];omega
   .have u:¬(k:Int)<(s.size:Int):=by omega
    have b:=aA (p (fun j n=>a j n (by omega)));by_cases G:s.size=0
    .have L:s=⟨#[]⟩:=tG (by rw[fQ.1 ((bN s).trans G)];rfl)
     subst L;go_wp2_with fail;go_ret;exact⟨eJ (by rw[b.out];rfl),Gr.refl _⟩
    .have B:0<s.size:=by omega
     have K:s.toList.isEmpty=false:=by rw[hI,tp];intro e;have:=bN s;rw[e]at this;simp at this;omega
     have P:((s.size:Int)-1).toNat=s.size-1:=by omega
     have Q:(s.size:Int)-1<(s.size:Int):=by omega
     have R:(0:Int)<(s.size:Int):=by omega
     have z:=Pm B;have o:=adj B;rw[z,o]at b;have l:∀x:UInt8,x=32↔x.toNat=32:=fun x=>⟨fun h=>by rw[h];rfl,fun h=>lP.1 h⟩;simp only[qE,l]at b;clear z o l;by_cases C:s[0].toNat=32
     .have t:((s[0].toNat:Int)==32)=true:=by simp;omega
      rw[aG (.inl C)]at b;go_wp2_with fail;go_ret;exact⟨eJ b.symm,Gr.refl _⟩
     .have t:((s[0].toNat:Int)==32)=false:=by simp;omega
      by_cases D:(s[s.size-1]'(by omega)).toNat=32
      .have y:(((s[s.size-1]'(by omega)).toNat:Int)==32)=true:=by simp;omega
       rw[aG (.inr D)]at b;go_wp2_with fail;go_ret;exact⟨eJ b.symm,Gr.refl _⟩
      .have y:(((s[s.size-1]'(by omega)).toNat:Int)==32)=false:=by simp;omega
       rw[aF (by rintro(h|h);exact C h;exact D h)]at b;go_wp2_with fail;go_ret;exact⟨eJ b.symm,Gr.refl _⟩
def Fp{w:aB}{b k n:Nat}{cs:bF}(c:hasRow w (aD b k) n=true)(d:rowAt w (aD b k) n=cs)(m:Nat)(a:m<n):w.cell? (aD b (k+m))=cs[m]? :=by
 subst d;have h:=kr.1 c m a;rw[fO]at h;unfold rowAt;rw[fo,qf a,jm,fO]
 cases hc:w.cell? (aD b (k+m))with
 |none=>rw[hc]at h;cases h
 |some v=>rfl
def VU(l:List cE)(k:Nat)(a:k+1<l.length):eP (l.drop k)=(decide (Lib.compareBytes l[k].toList l[k+1].toList<0)&&eP (l.drop (k+1))):=by
 rw[kR (by omega:k<l.length),kR a,eP]
def OJ(l:List cE)(k:Nat)(h:l.length<=k+1):eP (l.drop k)=true:=by
 have c:(l.drop k).length<=1:=by rw[eh];omega
 cases h:l.drop k with
 |nil=>rfl
 |cons a t=>
  rw[h]at c
  cases t with
  |nil=>rfl
  |cons b t=>simp at c
def pU(x y:cE)(m:Nat):Int:=Lib.compareBytes (x.toList.drop m) (y.toList.drop m)
def KP(x y:cE)(m:Nat)(h:m<16):pU x y m=j6 (iq (x[m].toNat:Int) (y[m].toNat:Int)) (pU x y (m+1)):=by
 unfold pU;rw[Um x.toList y.toList m (by simpa using h) (by simpa using h)];rfl
def Rv(x y:cE):pU x y 16=0:=by
 unfold pU;rw[jn (by simp),jn (by simp)];rfl
def PY(x y:cE)(m:Nat)(h:m<16)(e:x[m].toNat=y[m].toNat):pU x y m=pU x y (m+1):=by
 rw[KP x y m h,e,Zv];rfl
def QH(x y:cE)(m:Nat)(h:m<16)(e:x[m].toNat≠y[m].toNat):pU x y m<0↔¬y[m].toNat<x[m].toNat:=by
 rw[KP x y m h];unfold j6 iq;by_cases a:(x[m].toNat:Int)<(y[m].toNat:Int)
 .rw[aG a,aF (aH rfl)];omega
 .rw[aF a,aG (by omega:(y[m].toNat:Int)<(x[m].toNat:Int)),aF (aH rfl)];omega
def WD(l:List cE)(v:Value)(w:aB)(hv:eR w v l)(hl:l.length<=1000000):
  Calls prog 123 #[v] w (RG w (.bool (eP l))):=by
 obtain⟨a,R,rfl,T,K⟩:=hv;have H:(l.map bC).length=l.length:=by simp
 rw[H]at T|-
 have G:=aA K;have N:Hid (eP (l.drop 0)=eP l):=rfl;go_in;go_wp2_with fail
 go_loopw [3] (fun i wr=>∃k:Nat,k<=l.length/\i=.int .i64 ((k:Int)+1)/\Hid (eP (l.drop k)=eP l)/\∃q,wr=w.drewN q) (fun i _=>l.length+1-(intOf i).toNat)
 .exact⟨0,bW _,rfl,N,0,rfl⟩
 .
  obtain⟨k,hk,rfl,f,q,rfl⟩:=hrel;by_cases o:k+1<l.length
  .obtain⟨z,E,rfl,z1,I,B⟩:=G.out k (by simp;omega)
   obtain⟨O,o2,n,z2,J,C⟩:=G.out (k+1) (by simpa using o);obtain⟨rfl,rfl⟩:z=O/\E=o2:=by simpa using n
   rw[ig]at B C;have c:=aA (VU l k o);have D:(k:Int)+1<(l.length:Int):=by omega
   have U:(0:Int)<=(k:Int)+1:=by omega
   have V:(k:Int)+1-1=(k:Int):=by omega
   have W:=nn k
   have X:(k:Int)<(l.length:Int):=by omega
   have Y:((k:Int)+1).toNat=k+1:=by omega
   have P:Hid (∀m,m<16->w.cell? (aD z (E+k*16+m))=(bC l[k])[m]?):=fun m t=>Fp I B m t
   have Q:Hid (∀m,m<16->w.cell? (aD z (E+(k+1)*16+m))=(bC l[k+1])[m]?):=fun m t=>Fp J C m t
   have u:Hid (pU l[k] l[k+1] 0=Lib.compareBytes l[k].toList l[k+1].toList):=rfl;generalize l[k]=x at*
   generalize l[k+1]=y at*
   go_wp2_with fail
   go_loopw [4] (fun i wr=>∃m:Nat,m<=16/\i=.int .i64 (m:Int)/\Hid (pU x y 0=pU x y m)/\∃q,wr=w.drewN q) (fun i _=>16-(intOf i).toNat)
   .exact⟨0,bW _,rfl,rfl,_,rfl⟩
   .
    obtain⟨m,t,rfl,d,q2,rfl⟩:=hrel;by_cases b:m<16
    .have Z:(m:Int)<16:=by omega
     have a1:=nn m
     have a2:((m:Int)==16)=false:=by simp;omega
     have S:=(P m b).trans (tD x m b);have d2:=(Q m b).trans (tD y m b);by_cases g:x[m].toNat=y[m].toNat
     .have M:=aA (d.trans (PY x y m b g))
      have L:((x[m].toNat:Int)==(y[m].toNat:Int))=true:=by simp[g]
      rw[g]at S L;go_wp2_with fail
      go_quiet (fail)
      go_wp2_with fail;go_roundw
      .exact⟨m+1,by omega,by go_num,M,_,rfl⟩
      .simp[intOf];omega
     .have j:=aA (QH x y m b g)
      rw[<-d.out,u.out]at j;have L:((x[m].toNat:Int)==(y[m].toNat:Int))=false:=by simp;omega
      generalize x[m].toNat=p at*
      generalize y[m].toNat=r at*
      by_cases s:r<p
      .have y2:(r:Int)<(p:Int):=by omega
       have h:Hid (eP l=false):=by
        show _=_;rw[<-f.out,c.out,eL (fun q=>j.out.1 q s)];rfl
       go_wp2_with fail
       go_quiet (fail)
       go_wp2_with fail
       go_quiet (fail)
       go_wp2_with fail;go_ret;exact⟨eU h.symm,(((Gr.refl w).drewN _).drewN _).drewN _⟩
      .have y2:¬(r:Int)<(p:Int):=by omega
       have h:Hid (eP (l.drop (k+1))=eP l):=by
        show _=_;rw[<-f.out,c.out,fm (j.out.2 s)];rfl
       go_wp2_with fail
       go_quiet (fail)
       go_wp2_with fail
       go_quiet (fail)
       go_wp2_with fail;go_roundw
       .exact⟨k+1,by omega,by go_num,h,_,rfl⟩
       .simp[intOf];omega
    .obtain rfl:m=16:=by omega
     have h:Hid (eP l=false):=by
      show _=_;rw[<-f.out,c.out,<-u.out,d.out,Rv];rfl
     go_wp2_with fail
     go_quiet (fail)
     go_wp2_with fail
     go_quiet (fail)
     go_wp2_with fail;go_ret;exact⟨eU h.symm,(((Gr.refl w).drewN _).drewN _).drewN _⟩
  .have D:¬(k:Int)+1<(l.length:Int):=by omega
   have F:=aA (OJ l k (by omega));rw[f.out]at F;go_wp2_with fail;go_ret;exact⟨eU F.symm,(Gr.refl w).drewN _⟩
def UU(l:List cE)(v:Value)(w:aB)(i:eR w v l)(o:l.length<=1000000):
  Calls prog 70 #[v] w (RG w (.int .i64 (rX l))):=by
 have g:=aA (WD l v w i o);obtain⟨a,j,rfl,m,_⟩:=i;have k:(l.map bC).length=l.length:=by simp
 rw[k]at m g|-
 have d:Hid (rX l=if l.length=0 then 1 else if 8<l.length then 9 else if eP l=false then 30 else 0):=rfl;generalize rX l=r at*
 generalize eP l=b at*
 generalize l.length=n at*
 by_cases f:n=0
 .subst f
  go_in;go_wp2_with fail;go_ret;exact⟨eJ (by rw[d.out];rfl),Gr.refl _⟩
 .have s:((n:Int)==0)=false:=by simp;omega
  by_cases h:8<n
  .have p:8<(n:Int):=by omega
   go_in;go_wp2_with fail;go_ret;exact⟨eJ (by rw[d.out,aF f,aG h]),Gr.refl _⟩
  .have p:¬8<(n:Int):=by omega
   cases b with
   |true=>
    go_in;go_wp2_with (go_at_call 123;refine bA g fun q c=>?_);go_ret;exact⟨eJ (by rw[d.out,aF f,aF h];rfl),c⟩
   |false=>
    go_in;go_wp2_with (go_at_call 123;refine bA g fun q c=>?_);go_ret;exact⟨eJ (by rw[d.out,aF f,aF h];rfl),c⟩
def Ld(c:Nat):j_ (c:Int)=false↔(97<=c/\c<=122)\/(48<=c/\c<=57)\/c=45\/c=43\/c=95:=by
 have a:j_ (c:Int)=decide (¬((97<=c/\c<=122)\/(48<=c/\c<=57)\/c=45\/c=43\/c=95)):=by
  unfold j_ oI;rw[kE];simp;omega
 rw[a,ou,Classical.not_not]
def SG{s:aJ}(a:0<s.size)(b:s.size<=20)(k:Nat)(f:k<s.size)(d:j_ (s[k].toNat:Int)=true):ir s=false:=by
 have:(bl s).any (fun c=>j_ c.toNat)=true:=mD.2 ⟨s[k],by
  have e:(bl s)[k]'(by rw[bN];exact f)=s[k]:=rfl
  rw[<-e];exact kA _,d⟩
 rw[zK s a b,this];simp
def Vg{s:aJ}(d:0<s.size)(f:s.size<=20)(hl:oI (s[0].toNat:Int)=true)(a:∀j (b:j<s.size),1<=j->j_ (s[j].toNat:Int)=false):ir s=true:=by
 rw[zK s d f,hl,vB,FX,vI];intro c g;obtain⟨j,b,rfl⟩:=pD g;rw[bN]at b;have e:(bl s)[j]'(by rw[bN];exact b)=s[j]:=rfl
 rw[e];by_cases h:1<=j
 .simp[a j b h]
 .obtain rfl:j=0:=by omega
  unfold oI at hl;simp only[fH,iK]at hl;have:=(Ld s[0].toNat).2 (.inl (by omega));simp[this]
def RS(s:aJ)(w:aB):Calls prog 121 #[.string s] w fun e w'=>e=.returned (.bool (ir s))/\w=w':=by
 by_cases G:s.size=0
 .have o:=aA (show ir s=false by unfold ir;simp[G])
  have O:(s.size:Int)<1:=by omega
  go_in;go_wp2_with fail;go_ret;exact⟨eU o.symm,rfl⟩
 .have u:0<s.size:=by omega
  have O:¬(s.size:Int)<1:=by omega
  by_cases p:20<s.size
  .have o:=aA (show ir s=false by unfold ir;simp[show ¬s.size<=20 by omega])
   have P:20<(s.size:Int):=by omega
   go_in;go_wp2_with fail;go_ret;exact⟨eU o.symm,rfl⟩
  .have P:¬20<(s.size:Int):=by omega
   have d:=aA (SG u (by omega));have a:=aA (Vg u (by omega))
   cases hl:oI (s[0].toNat:Int)with
   |false=>
    have o:=aA (show ir s=false by rw[zK s u (by omega),hl];rfl)
    have z:s[0].toNat<97\/122<s[0].toNat:=by
     unfold oI at hl;simp only[zt,ou]at hl;omega
    by_cases M:s[0].toNat<97
    .have C:(s[0].toNat:Int)<97:=by omega
     go_in;go_wp2_with fail;go_ret;exact⟨eU o.symm,rfl⟩
    .have C:¬(s[0].toNat:Int)<97:=by omega
     have I:122<(s[0].toNat:Int):=by omega
     go_in;go_wp2_with fail;go_ret;exact⟨eU o.symm,rfl⟩
   |true=>
    have L:=aA hl;have z:97<=s[0].toNat/\s[0].toNat<=122:=by
     unfold oI at hl;simp only[fH,iK]at hl;omega
    have C:¬(s[0].toNat:Int)<97:=by omega
    have I:¬122<(s[0].toNat:Int):=by omega
    go_in;go_wp2_with fail
    go_loop [3,4,23,24,25,26,27,28,29,30,31,32,33,34,35,36,37,38,39,40,41,42,43,44,45,46,47,48,49,50,51,52,53,54,55,56,57,58] (fun i _ _ _ _ _ _ _ _ _ _ _ _ _ _ _ _ _ _ _ _ _ _ _ _ _ _ _ _ _ _ _ _ _ _ _ _ _=>∃k:Nat,1<=k/\k<=s.size/\i=.int .i64 k/\Hid (∀j (q:j<s.size),1<=j->j<k->j_ (s[j].toNat:Int)=false)) (fun i _ _ _ _ _ _ _ _ _ _ _ _ _ _ _ _ _ _ _ _ _ _ _ _ _ _ _ _ _ _ _ _ _ _ _ _ _=>s.size-(intOf i).toNat)
    .exact⟨1,aU _,u,rfl,fun j _ p H=>absurd H (by omega)⟩
    .
     obtain⟨k,N,T,rfl,f⟩:=hrel;by_cases B:k<s.size
     .have Q:(k:Int)<(s.size:Int):=by omega
      have U:=nn k
      have l:=aA (d k B)
      have g:=aA (fun(h:j_ (s[k].toNat:Int)=false)=>(show ∀j (q:j<s.size),1<=j->j<k+1->j_ (s[j].toNat:Int)=false from fun j q p H=>by
       by_cases e:j=k
       .subst e;exact h
       .exact f j q p (by omega)))
      have c:=aA (Ld s[k].toNat);by_cases m:97<=s[k].toNat
      .have R:97<=(s[k].toNat:Int):=by omega
       by_cases v:s[k].toNat<=122
       .have S:(s[k].toNat:Int)<=122:=by omega
        have b:=aA (g (c.2 (.inl ⟨m,v⟩)));go_wp2_with fail
        go_round
        .exact⟨k+1,by omega,by omega,by go_num,b⟩
        .simp[intOf];omega
       .have S:¬(s[k].toNat:Int)<=122:=by omega
        have J:48<=(s[k].toNat:Int):=by omega
        have K:¬(s[k].toNat:Int)<=57:=by omega
        have D:((s[k].toNat:Int)==45)=false:=by simp;omega
        have E:((s[k].toNat:Int)==43)=false:=by simp;omega
        have F:((s[k].toNat:Int)==95)=false:=by simp;omega
        have b:=aA (l (by cases h:j_ (s[k].toNat:Int)with|true=>rfl|false=>have:=c.1 h;omega));go_wp2_with fail;go_ret;exact⟨eU b.symm,rfl⟩
      .have R:¬97<=(s[k].toNat:Int):=by omega
       by_cases n:48<=s[k].toNat
       .have J:48<=(s[k].toNat:Int):=by omega
        by_cases r:s[k].toNat<=57
        .have K:(s[k].toNat:Int)<=57:=by omega
         have b:=aA (g (c.2 (.inr (.inl ⟨n,r⟩))));go_wp2_with fail
         go_round
         .exact⟨k+1,by omega,by omega,by go_num,b⟩
         .simp[intOf];omega
        .have K:¬(s[k].toNat:Int)<=57:=by omega
         have D:((s[k].toNat:Int)==45)=false:=by simp;omega
         have E:((s[k].toNat:Int)==43)=false:=by simp;omega
         by_cases y:s[k].toNat=95
         .have b:=aA (g (c.2 (.inr (.inr (.inr (.inr y))))))
          have F:((s[k].toNat:Int)==95)=true:=by simp;omega
          go_wp2_with fail
          go_round
          .exact⟨k+1,by omega,by omega,by go_num,b⟩
          .simp[intOf];omega
         .have F:((s[k].toNat:Int)==95)=false:=by simp;omega
          have b:=aA (l (by cases h:j_ (s[k].toNat:Int)with|true=>rfl|false=>have:=c.1 h;omega));go_wp2_with fail;go_ret;exact⟨eU b.symm,rfl⟩
       .have J:¬48<=(s[k].toNat:Int):=by omega
        by_cases t:s[k].toNat=45
        .have b:=aA (g (c.2 (.inr (.inr (.inl t)))))
         have D:((s[k].toNat:Int)==45)=true:=by simp;omega
         go_wp2_with fail
         go_round
         .exact⟨k+1,by omega,by omega,by go_num,b⟩
         .simp[intOf];omega
        .have D:((s[k].toNat:Int)==45)=false:=by simp;omega
         by_cases x:s[k].toNat=43
         .have b:=aA (g (c.2 (.inr (.inr (.inr (.inl x))))))
          have E:((s[k].toNat:Int)==43)=true:=by simp;omega
          go_wp2_with fail
          go_round
          .exact⟨k+1,by omega,by omega,by go_num,b⟩
          .simp[intOf];omega
         .have E:((s[k].toNat:Int)==43)=false:=by simp;omega
          have F:((s[k].toNat:Int)==95)=false:=by simp;omega
          have b:=aA (l (by cases h:j_ (s[k].toNat:Int)with|true=>rfl|false=>have:=c.1 h;omega));go_wp2_with fail;go_ret;exact⟨eU b.symm,rfl⟩
     .have Q:¬(k:Int)<(s.size:Int):=by omega
      have b:=aA (a L (fun j q p=>f j q p (by omega)));go_wp2_with fail;go_ret;exact⟨eU b.symm,rfl⟩
def ri(p:aT):List aT->List aT
 |[]=>[]
 |h::t=>(p++h)::t
def Mi(l:List aT):ri [] l=l:=by cases l<;>rfl
def Yq(p:aT)(t:aT):ri p (dS 46 (46::t))=p::dS 46 t:=by
 rw[dS,aG rfl];simp[ri]
def Pb(p:aT){x:UInt8}(t:aT)(h:x≠46):ri p (dS 46 (x::t))=ri (p++[x]) (dS 46 t):=by
 rw[dS,aF h]
 cases hs:dS 46 t with
 |nil=>exact absurd hs (uK 46 t)
 |cons a l=>simp[ri]
def aan(s:aJ)(k:Nat)(h:k<s.size):s.extract k (k+1)=bs [s[k]]:=by
 apply ByteArray.ext;rw[xI];apply Array.ext';rw[yA,yI,show k+1-k=1 by omega,kR (by simpa using h)];rfl
def Et(s:aJ)(k:Nat)(h:k<s.size):(bl s).drop k=s[k]::(bl s).drop (k+1):=by
 rw[kR (by rw[bN];exact h)];rfl
def mo(s:aJ)(k:Nat)(lo:bP)(p:aJ):Prop:=
 (iL s).map bl=lo.map bl++ri (bl p) (dS 46 ((bl s).drop k))
def mo.start(s:aJ):mo s 0 [] ⟨#[]⟩:=by
 unfold mo;rw[Sh];exact(Mi _).symm
def mo.hit{s:aJ}{k:Nat}{lo:bP}{p:aJ}(h:mo s k lo p)(a:k<s.size)(e:s[k].toNat=46):mo s (k+1) (lo++[p]) ⟨#[]⟩:=by
 unfold mo at*
 have e':s[k]=46:=lP.1 e;rw[Et s k a,e',Yq]at h;rw[h];show _=_++ri [] _;rw[Mi];simp
def mo.miss{s:aJ}{k:Nat}{lo:bP}{p:aJ}(h:mo s k lo p)(a:k<s.size)(e:s[k].toNat≠46):mo s (k+1) lo (p++bs [s[k]]):=by
 unfold mo at*
 rw[Et s k a,Pb _ _ (fun e'=>e (by rw[e'];rfl))]at h;rw[h];have:bl (p++bs [s[k]])=bl p++[s[k]]:=by
  have:p=bs (bl p):=rfl;rw[this,iY];rfl
 rw[this]
def LL{a b:bP}(h:a.map bl=b.map bl):a=b:=by
 induction a generalizing b with
 |nil=>cases b with
  |nil=>rfl
  |cons y b=>cases h
 |cons x a c=>cases b with
  |nil=>cases h
  |cons y b=>
   rw[gt,gt,za]at h;rw[tG h.1,c h.2]
def mo.stop{s:aJ}{k:Nat}{lo:bP}{p:aJ}(h:mo s k lo p)(a:s.size<=k):lo++[p]=iL s:=by
 unfold mo at h;rw[jn (by rw[bN];exact a)]at h;apply LL;rw[h];simp[dS,ri]
def Qd(s:aJ)(w:aB)(P:s.size<=1000):Calls prog 120 #[.string s,.int .u8 46] w fun e w'=>∃v,e=.returned v/\fs w' w.heap.size v (iL s)/\Gr w w':=by
 have D:=aA (mo.start s);go_in;go_wp2_with fail
 go_loopw [5,6,7] (fun J K i wr=>∃(k:Nat) (lo:bP) (p:aJ),k<=s.size/\i=.int .i64 k/\K=.string p/\p.size<=k/\lo.length<=k/\Hid (mo s k lo p)/\Hid (Gr w wr)/\Hid (fs wr w.heap.size J lo)) (fun _ _ i _=>s.size-(intOf i).toNat)
 .exact⟨0,[],⟨#[]⟩,bW _,rfl,rfl,aU _,aU _,D,Gr.refl _,fs.nil _ _⟩
 .
  obtain⟨k,lo,p,N,rfl,rfl,O,G,m,x,C⟩:=hrel;have B:=aA x.size;have c:=aA (C.gr ((Gr.refl wr).alloc (.cells #[.string p] 9)));have h:Hid (fs (wr.alloc (.cells #[.string p] 9)) w.heap.size (aR (wr.heap.size) 0 1 1) [p]):=fs.made (l:=[p]) (cM wr _) B (by simp);have j:=aA (show w.heap.size<=(wr.alloc (.cells #[.string p] 9)).heap.size by have:=B.out;simp;omega)
  have z:=aA (x.alloc (.cells #[.string p] 9));have Q:¬9223372036854775807<p.size+1:=by omega
  by_cases f:k<s.size
  .have I:(k:Int)<(s.size:Int):=by omega
   have R:=nn k
   have S:(k:Int)+1<=(s.size:Int):=by omega
   have T:((k:Int)+1).toNat=k+1:=by omega
   have U:(k:Int)<=(k:Int)+1:=by omega
   have u:=aA (aan s k f);have t:=aA (m.hit f);have n:=aA (m.miss f);rw[<-u.out]at n;have H:(s.extract k (k+1)).size=1:=by rw[u.out];rfl
   by_cases o:s[k].toNat=46
   .have M:((s[k].toNat:Int)==46)=true:=by simp;omega
    have g:=aA (t o);go_wp2_with (refine yN _ rfl _ _ rfl w.heap.size u5 lo (by simp[Act.eval]) c (aR (wr.heap.size) 0 1 1) [p] (by simp[Act.eval]) h (by simp;omega) j ?_;intro E F L a b);have r:=aA (z.grown b (fun q y=>(fA c q y).1));rw[bV,jN]at a;have d:=aA a;go_roundw
    .exact⟨k+1,lo++[p],⟨#[]⟩,by omega,by go_num,rfl,bW _,by simp;omega,g,r,d⟩
    .simp[intOf];omega
   .have M:((s[k].toNat:Int)==46)=false:=by simp;omega
    have g:=aA (n o);go_wp2_with fail;go_roundw
    .exact⟨k+1,lo,p++s.extract k (k+1),by omega,by go_num,rfl,by rw[ni];omega,by omega,g,x,C⟩
    .simp[intOf];omega
  .have I:¬(k:Int)<(s.size:Int):=by omega
   have g:=aA (m.stop (by omega));go_wp2_with (refine yN _ rfl _ _ rfl w.heap.size u5 lo (by simp[Act.eval]) c (aR (wr.heap.size) 0 1 1) [p] (by simp[Act.eval]) h (by simp;omega) j ?_;intro E F L a b);have r:=aA (z.grown b (fun q y=>(fA c q y).1));rw[bV,jN]at a;have d:=aA a;go_ret;exact⟨_,rfl,by rw[<-g.out];exact d,r⟩
def fs.slice{w:aB}{base:Nat}{v:Value}{l:bP}(h:fs w base v l):∃a c,v=.slice a l.length c/\∀j (b:j<l.length),∃g,a=some (aD g 0)/\g<w.heap.size/\w.cell? (aD g j)=some (.string l[j]):=by
 by_cases d:l=[]
 .subst d
  obtain⟨a,c,rfl,_⟩:=ql h;exact⟨a,c,rfl,fun j b=>absurd b (lZ _)⟩
 .obtain⟨g,c,rfl,_,f,e⟩:=h.cells d
  refine⟨_,c,rfl,fun j b=>⟨g,rfl,f,?_⟩⟩;have:=e j l[j] (cO b);rwa[fB]at this
def acp{l:bP}(h:∀j (a:j<l.length),ir l[j]=true):(l.any fun p=>!ir p)=false:=by
 rw[vI];intro p b;obtain⟨j,a,rfl⟩:=pD b;simp[h j a]
def IU(s:aJ)(w:aB):Calls prog 67 #[.string s] w (RG w (.int .i64 (jt s))):=by
 by_cases C:80<s.size
 .have m:=aA (show jt s=5 by unfold jt;rw[aG C])
  have H:80<(s.size:Int):=by omega
  go_in;go_wp2_with fail;go_ret;exact⟨eJ m.symm,Gr.refl w⟩
 .have H:¬80<(s.size:Int):=by omega
  have B:=aA (Qd s w (by omega));have M:=L1 s;have m:=aA (show jt s=if((iL s).any fun p=>!ir p)=true then 12 else if 10<(iL s).length then 9 else 0 by unfold jt;rw[aF C])
  have u:Hid (∀j (d:j<(iL s).length),ir (iL s)[j]=false->((iL s).any fun p=>!ir p)=true):=fun j d h=>mD.2 ⟨_,kA d,by simp[h]⟩;have y:=aA (acp (l:=iL s));generalize iL s=l at*
  go_in;go_wp2_with fail;refine B.mono ?_;rintro e W ⟨v,rfl,E,D⟩;obtain⟨a,c,rfl,d⟩:=E.slice;have F:=aA d;have r:=aA D;go_wp2_with fail
  go_loop [4,10,11,12,13,14,15,16,17,18,19,20,21] (fun i _ _ _ _ _ _ _ _ _ _ _ _=>∃k:Nat,k<=l.length/\i=.int .i64 k/\Hid (∀j (d:j<l.length),j<k->ir l[j]=true)) (fun i _ _ _ _ _ _ _ _ _ _ _ _=>l.length-(intOf i).toNat)
  .exact⟨0,bW _,rfl,fun j _ h=>absurd h (lZ _)⟩
  .
   obtain⟨k,L,rfl,b⟩:=hrel;by_cases n:k<l.length
   .have J:(k:Int)<(l.length:Int):=by omega
    have N:=nn k
    obtain⟨g,rfl,K,z⟩:=F.out k n;have t:=aA (u k n);have o:=aA (RS l[k] W)
    cases hc:ir l[k]with
    |false=>
     rw[hc]at o;have q:=aA (t hc);generalize l[k]=x at*
     go_wp2_with (go_at_call 121;refine dK o ?_);go_ret;exact⟨eJ (by rw[m.out,aG q.out]),r⟩
    |true=>
     rw[hc]at o
     have G:Hid (∀j (d:j<l.length),j<k+1->ir l[j]=true):=fun j d h=>by
      by_cases e:j=k
      .subst e;exact hc
      .exact b j d (by omega)
     generalize l[k]=x at*
     go_wp2_with (go_at_call 121;refine dK o ?_)
     go_round
     .exact⟨k+1,by omega,by go_num,G⟩
     .simp[intOf];omega
   .have J:¬(k:Int)<(l.length:Int):=by omega
    have q:=aA (y (fun j d=>b j d (by omega)));by_cases f:10<l.length
    .have I:10<(l.length:Int):=by omega
     go_wp2_with fail;go_ret;exact⟨eJ (by rw[m.out,q.out,aF (aH rfl),aG f]),r⟩
    .have I:¬10<(l.length:Int):=by omega
     go_wp2_with fail;go_ret;exact⟨eJ (by rw[m.out,q.out,aF (aH rfl),aF f]),r⟩
@[go_sem] def afr:dZ prog 147 =true:=by kernel_rfl
@[go_sem] def aej:prog.cellsOf 147 =32:=by kernel_rfl
def Ww(i:Id)(w:aB):Calls prog 177 #[aE (bC i)] w (RG w (.string (bs (dF i.toList)))):=by
 have h:=aA (km ((Gr.refl w).alloc (aC (bC i) 147)) (cM w (aC (bC i) 147)));go_in;go_wp2_with fail
 go_loopw [3,4] (fun s j wr=>∃k:Nat,k<=32/\j=.int .i64 k/\s=.string (bs (dF (i.toList.take k)))/\Hid (Gr w wr)/\Hid (HB wr (w.heap.size) (bC i) 147)) (fun _ j _=>32-(intOf j).toNat)
 .exact⟨0,bW _,rfl,rfl,h.1,h.2⟩
 .
  obtain⟨k,G,rfl,rfl,n,m⟩:=hrel;by_cases a:k<32
  .have g:(k:Int)<32:=by omega
   have p:=nn k
   have D:=(bH m k).trans (tD i k a);have l:Hid (bs (dF (i.toList.take k))++(bs [fu (i[k].toNat/16)]++bs [fu (i[k].toNat%16)])=bs (dF (i.toList.take (k+1)))):=by
    show _=_;rw[xv i.toList k (by simpa using a),iY,iY];rfl
   have J:=i[k].toNat_lt;generalize i[k].toNat=x at*
   have t:(bs (dF (i.toList.take k))).size<=64:=by
    show(dF (i.toList.take k)).toArray.size<=64;rw[bQ,qv,dP];omega
   generalize bs (dF (i.toList.take k))=s at*
   obtain⟨q,H,b,c⟩:∃q:Nat,(x:Int)/16=(q:Int)/\q<16/\x/16=q:=⟨x/16,by omega,by omega,rfl⟩;obtain⟨r,I,d,f⟩:∃r:Nat,(x:Int)%16=(r:Int)/\r<16/\x%16=r:=⟨x%16,by omega,by omega,rfl⟩;rw[c,f]at l;have u:=u_ q b;have v:=u_ r d;have R:(bs [fu q]).size=1:=rfl;have S:(bs [fu r]).size=1:=rfl;generalize bs [fu q]=E at*
   generalize bs [fu r]=F at*
   have K:¬9223372036854775807<s.size+(1+1):=by omega
   have N:IntKind.u8.wrap (q:Int)=(q:Int):=by rw[gg];omega
   have O:IntKind.u8.wrap ((q:Int)+1)=(q:Int)+1:=by rw[gg];omega
   have P:IntKind.u8.wrap (r:Int)=(r:Int):=by rw[gg];omega
   have Q:IntKind.u8.wrap ((r:Int)+1)=(r:Int)+1:=by rw[gg];omega
   have L:((q:Int)+1).toNat=q+1:=by omega
   have M:((r:Int)+1).toNat=r+1:=by omega
   have y:(q:Int)+1<=16:=by omega
   have z:(r:Int)+1<=16:=by omega
   have B:(q:Int)<=(q:Int)+1:=by omega
   have C:(r:Int)<=(r:Int)+1:=by omega
   go_wp2_with fail
   go_quiet (fail)
   go_wp2_with fail
   go_quiet (fail)
   go_wp2_with fail;go_roundw
   .exact⟨k+1,by omega,by go_num,ei Value.string l,n.drewN _,m⟩
   .simp[intOf];omega
  .have g:¬(k:Int)<32:=by omega
   have o:=aA (show bs (dF (i.toList.take k))=bs (dF i.toList) by rw[eq (by simp;omega)])
   go_wp2_with fail;go_ret;exact⟨by rw[<-o.out];rfl,n⟩
def JA(i:Id):(⟨#[60]⟩:aJ)++bs (dF i.toList)++⟨#[64,104,97,115,104,62]⟩=bs (ic i):=by
 have a:(⟨#[60]⟩:aJ)=bs [60]:=rfl;have b:(⟨#[64,104,97,115,104,62]⟩:aJ)=bs jK:=rfl;rw[a,b,iY,iY];rfl
def SM(i:Id)(w:aB):Calls prog 141 #[aE (bC i)] w (RG w (.string (bs (ic i)))):=by
 have c:=aA ((Gr.refl w).alloc (aC (bC i) 147));have a:=cM w (aC (bC i) 147);have j:=aP a 0 32 (by rw[a_];decide);have h:rowAt (w.alloc (aC (bC i) 147)) (aD (w.heap.size) 0) 32=bC i:=(bJ a 0 32 (tN (a_ i).symm)).trans (b_ (bC i) 32 (a_ i));have f:=aA (JA i);have d:=aA (Ww i);have g:(bs (dF i.toList)).size=64:=by
  show(dF i.toList).toArray.size=64;rw[bQ,qv];simp
 generalize bs (ic i)=m at*
 generalize bs (dF i.toList)=s at*
 go_in;go_wp2_with fail;refine bA (d _) fun k b=>?_;go_wp2_with fail;go_ret;exact⟨by rw[<-f.out];rfl,c.trans b⟩
section
@[local go_sem ↓ high] def agq (w:aB):Sem.run prog (zeroValue 66) w=.ok (aE (aL (aV 0) bB)) w:=by kernel_rfl
def F8(b:Nat):∀(l:bF) (k:Nat) (w:aB),w.drew.setCells b k l=(w.setCells b k l).drew
 |[],_,_=>rfl
 |v::l,k,w=>by
  show World.setCells (w.drew.setCell (aD b k) v) b (k+1) l=_;rw[World.setCell_drew];exact F8 b l (k+1) (w.setCell (aD b k) v)
@[local go_sem ↓ high] def aeC (b:Nat) (l:bF) (k:Nat) (w:aB):w.drew.setCells b k l=(w.setCells b k l).drew:=F8 b l k w
@[local go_sem ↓ high] def af_ (w:aB) (t:TypeId) (b:Nat) (c:Cm) (v:Value) (n:Int) (a:b=w.heap.size):(w.alloc (aC (aL c v) t)).setCell (aD b 39) (.int .i64 n)=w.alloc (aC (aL { c with height:=n } v) t):=tf w t b c v 39 _ _ _ a (by rw[lv _ _ _ _ (aH rfl)];rfl)
def AD(c:Cm)(v:Value):aL c v=([.int .i64 c.kind]++(bC c.target++([Value.string c.group,.int .i64 c.version,.bool c.moderated,v,.string c.text,.int .i64 c.number]++[Value.int .i64 c.height])))++(bC c.root++[]):=by simp[aL,aN]
@[local go_sem ↓ high] def ahT (w:aB) (t:TypeId) (b:Nat) (c:Cm) (v:Value) (r:cE) (d:b=w.heap.size):(w.alloc (aC (aL c v) t)).setCells b 40 (bC r)=w.alloc (aC (aL { c with root:=r } v) t):=by
 have e:=qO w t b d [] (bC r) ([.int .i64 c.kind]++(bC c.target++([Value.string c.group,.int .i64 c.version,.bool c.moderated,v,.string c.text,.int .i64 c.number]++[Value.int .i64 c.height]))) (bC c.root) (by rw[a_,a_]);have a:(([Value.int .i64 c.kind]++(bC c.target++([Value.string c.group,.int .i64 c.version,.bool c.moderated,v,.string c.text,.int .i64 c.number]++[Value.int .i64 c.height])):bF)).length=40:=by simp[a_]
 rw[a]at e;rw[AD c v,AD { c with root:=r } v];exact e
def wc{x:aB}{b:Nat}{o:Obj}(h:x.heap[b]? =some o):x.drew.heap[b]? =some o:=h
end
def Ol:∀q:Fin 64,(⟨#[65,66,67,68,69,70,71,72,73,74,75,76,77,78,79,80,81,82,83,84,85,86,87,88,89,90,97,98,99,100,101,102,103,104,105,106,107,108,109,110,111,112,113,114,115,116,117,118,119,120,121,122,48,49,50,51,52,53,54,55,56,57,43,47]⟩:aJ).extract q.val (q.val+1)=bs [cP q.val]:=by decide+kernel
def KA(q:Nat)(h:q<64):(⟨#[65,66,67,68,69,70,71,72,73,74,75,76,77,78,79,80,81,82,83,84,85,86,87,88,89,90,97,98,99,100,101,102,103,104,105,106,107,108,109,110,111,112,113,114,115,116,117,118,119,120,121,122,48,49,50,51,52,53,54,55,56,57,43,47]⟩:aJ).extract q (q+1)=bs [cP q]:=Ol ⟨q,h⟩
def Zk{B:List Bool}{g:List Nat}{c:List Bool}(h:cJ 6 B=(g,c))(b:Bool):
  c.length<6/\(c.length=5->cJ 6 (B++[b])=(g++[2*bT c+b.toNat],[]))/\(c.length≠5->cJ 6 (B++[b])=(g,c++[b])):=by
 have f:=sM (k:=6) (aH rfl) B.length B (aU _);have d:=yu (k:=6) (aH rfl) B.length B [b] (aU _);rw[h]at f d;refine⟨f,fun e=>?_,fun e=>?_⟩
 .rw[d]
  have:=FM (k:=6) (aH rfl) (a:=c++[b]) (l:=[]) (by simp[e]);rw[je]at this;rw[this,po (by simp),qk]
 .rw[d,po (k:=6) (l:=c++[b]) (by simp only[bV,dN,iJ];simp only at f;omega)]
  simp
def nv(l:aM)(k m:Nat):List Bool:=gk (l.take k)++eN (8-m) ((l.getD k 0).toNat/2^m)
def Ru(l:aM)(k:Nat):nv l k 8=gk (l.take k):=by unfold nv;simp[eN]
def Zs(l:aM)(k m:Nat)(h:m<8):nv l k m=nv l k (m+1)++[(l.getD k 0).toNat/2^m%2==1]:=by
 unfold nv;rw[show 8-m=(8-(m+1))+1 by omega,eN,fl,Nat.div_div_eq_div_mul,<-qe]
def aaa(l:aM)(k:Nat)(h:k<l.length):nv l k 0=gk (l.take (k+1)):=by
 rw[Mw l k h];unfold nv;rw[eD,cO h];simp
def OH(l:aM)(k m:Nat)(h:k<=l.length)(a:m<=8):(nv l k m).length<=8*k+8:=by
 unfold nv;rw[bV,zf,p8,dP];omega
def LP{B:List Bool}{e:List Nat}{a:List Bool}(h:cJ 6 B=(e,a)):6*e.length+a.length=B.length/\a.length<6/\bT a<2^a.length/\bT a<32:=by
 have b:=xw (k:=6) (aH rfl) B;have c:=sM (k:=6) (aH rfl) B.length B (aU _);rw[h]at b c;have d:=oP a;simp only at b c;exact⟨b,c,d,dQ d (eu (nR (aH rfl) (show a.length<=5 by omega)) (aH rfl))⟩
def ac_(q:Nat)(h:q<256):bits .and .u8 (q:Int) 1=((q%2:Nat):Int):=by
 have:∀q:Fin 256,bits .and .u8 (q.val:Int) 1=((q.val%2:Nat):Int):=by decide+kernel
 exact this ⟨q,h⟩
def I9(t:aT)(c:UInt8):bs t++bs [c]=bs (t++[c]):=iY _ _
def AR(t:aT):(bs t).size=t.length:=by show t.toArray.size=_;rw[bQ]
def NB:Value->Nat
 | .string s=>s.size
 |_=>0
def XR(g o c:Nat)(l:aM)(w:aB)(hl:l.length<=1000)(h:cS w g o l):Calls prog 142 #[aR g o l.length c] w fun e w'=>e=.returned (.string (bs (qW l)))/\w=w':=by
 have HU:Hid (∀k m,k<=l.length->m<=8->(nv l k m).length<=8*k+8):=fun k m=>OH l k m;have aa:=aA (Zs l);have a7:=aA (Ru l);have a3:=aA (aaa l)
 have a2:Hid (∀k (hk:k<l.length),w.cell? (aD g (o+k))=some (.int .u8 ((l.getD k 0).toNat:Int))/\(l.getD k 0).toNat<256):=fun k hk=>⟨by
  rw[eD,cO hk];exact h.2 k _ (cO hk),UInt8.toNat_lt _⟩
 have HT:=aA (show gk (l.take l.length)=gk l by rw[jS])
 have HE:Hid (qW l=rO (lk (cJ 6 (gk l)))):=rfl;have H8:Hid ((gk l).length=8*l.length):=zf l;generalize qW l=O at*
 clear h;obtain⟨n,hn⟩:=ex l.length;rw[hn]at hl HU a3 a2 HT H8;rw[hn];clear hn;go_in;go_wp2_with fail
 go_loop [3,4,5,6,7,8,9,10,11,12,13,14,15,16,17,18,19,20,21,22,23,24,25,26,27,28,29,30,31,32,33,34,35,36,37,38] (fun s v hv i _ _ _ _ _ _ _ _ _ _ _ _ _ _ _ _ _ _ _ _ _ _ _ _ _ _ _ _ _ _ _ _=>∃(k:Nat) (t:List Nat) (b:List Bool),k<=n/\i=.int .i64 k/\s=.string (bs (t.map cP))/\v=.int .i64 ((bT b:Nat):Int)/\hv=.int .i64 ((b.length:Nat):Int)/\Hid (cJ 6 (gk (l.take k))=(t,b))) (fun _ _ _ i _ _ _ _ _ _ _ _ _ _ _ _ _ _ _ _ _ _ _ _ _ _ _ _ _ _ _ _ _ _ _ _=>n-(intOf i).toNat)
 .exact⟨0,[],[],bW _,rfl,rfl,rfl,rfl,rfl⟩
 .
  obtain⟨k,t,b,hk,rfl,rfl,rfl,rfl,a⟩:=hrel;by_cases K:k<n
  .have q1:(k:Int)<(n:Int):=by omega
   have q2:=nn k
   obtain⟨au,hx⟩:=a2.out k K;have HX:Hid (∀m,m<8->nv l k m=nv l k (m+1)++[(l.getD k 0).toNat/2^m%2==1]):=fun m hm=>aa k m hm;have an:Hid (∀m,m<=8->(nv l k m).length<=8*k+8):=fun m hm=>HU k m hk hm;have ah:=aA (a3 k K);rw[<-a7.out]at a;generalize(l.getD k 0).toNat=x at*
   clear HU aa a3 a7 a2;go_wp2_with fail
   go_loop [3,4,5,7,14,15,16,17,18,19,20,21,22,23,24,25,26,27,28,29,30,31,32,33,34,35,36,37,38] (fun s v hv i _ _ _ _ _ _ _ _ _ _ _ _ _ _ _ _ _ _ _ _ _ _ _ _ _=>∃(m:Nat) (z:Int) (t:List Nat) (b:List Bool),m<=8/\z=(m:Int)-1/\i=.int .i64 z/\s=.string (bs (t.map cP))/\v=.int .i64 ((bT b:Nat):Int)/\hv=.int .i64 ((b.length:Nat):Int)/\Hid (cJ 6 (nv l k m)=(t,b))) (fun _ _ _ i _ _ _ _ _ _ _ _ _ _ _ _ _ _ _ _ _ _ _ _ _ _ _ _ _=>(intOf i+1).toNat)
   .exact⟨8,7,t,b,aU _,rfl,rfl,rfl,rfl,rfl,a⟩
   .
    clear a;obtain⟨m,z,ts,rs,hm,hz,rfl,rfl,rfl,rfl,a⟩:=hrel;by_cases ak:m=0
    .obtain rfl:z= -1:=by omega
     subst ak;rw[ah.out]at a;clear hz hm;go_wp2_with fail
     go_round
     .exact⟨k+1,ts,rs,by omega,by go_num,rfl,rfl,rfl,a⟩
     .simp[intOf];omega
    .obtain⟨j,rfl⟩:∃j,m=j+1:=⟨m-1,by omega⟩
     obtain rfl:z=(j:Int):=by omega
     have hj:j<8:=by omega
     have p0:=nn j
     obtain⟨g1,g2,g3⟩:=Zk a.out (x/2^j%2==1);obtain⟨s1,s2,s3,s4⟩:=LP a.out;have s5:=an (j+1) (by omega);rw[<-HX.out j hj]at g2 g3;have hq:x/2^j<256:=xh (Mq _ _) hx;have a5:=ac_ _ hq;have a6:((x/2^j%2==1):Bool).toNat=x/2^j%2:=by
      rcases Dh (x/2^j)with e|e<;>rw[e]<;>rfl
     rw[a6]at g2;have W:=qk rs (x/2^j%2==1);rw[a6]at W;obtain⟨q,ad⟩:=ex (x/2^j);have ax:(x:Int)/2^j=(q:Int):=by rw[<-ad];simp
     rw[ad]at a5 g2 g3 W hq;generalize ar:(q%2==1)=bb at*
     obtain⟨cb,aj,a0⟩:∃cb,q%2=cb/\cb<=1:=⟨_,rfl,by omega⟩;rw[aj]at a5 g2 W;have a8:=aA W;have G2:=aA g2;have G3:=aA g3;have al:(rs++[bb]).length=rs.length+1:=by simp
     have ai:=aA al;have b5:(bs (ts.map cP)).size<=2000:=by rw[AR,cL];omega
     have a9:Hid (∀d,bs (ts.map cP)++bs [cP d]=bs ((ts++[d]).map cP)):=fun d=>by rw[I9];simp
     clear ad aj ar g2 g3 W al hq hz hm ak a s1 s5 s3;generalize Q:bs (ts.map cP)=S at*
     have J:=aA Q;clear Q;generalize bT rs=V at*
     obtain⟨u,hu,ae⟩:∃u:Nat,2*(V:Int)+(cb:Int)=(u:Int)/\2*V+cb=u:=⟨2*V+cb,by omega,rfl⟩;rw[ae]at a8 G2;have Z:u<64:=by omega
     by_cases h5:rs.length=5
     .have HG:=aA (G2 h5)
      have ag:=KA u Z;have z1:(bs [cP u]).size=1:=rfl;have ao:=aA (a9 u);generalize bs [cP u]=d1 at*
      have n1:¬9223372036854775807<S.size+1:=by omega
      have b2:(u:Int)+1<=64:=by omega
      have b3:(u:Int)<=(u:Int)+1:=by omega
      have t1:((u:Int)+1).toNat=u+1:=by omega
      have w1:IntKind.i64.wrap ((u:Int)+1)=(u:Int)+1:=by rw[cV];omega
      rw[h5];clear G2 G3 ae a8 ai a9 h5 g1 s2;go_wp2_with fail
      go_round
      .exact⟨j,(j:Int)-1,ts++[u],[],by omega,rfl,rfl,ei Value.string ao,rfl,rfl,HG⟩
      .first|(simp[intOf];done)|(simp[intOf];omega)
     .have HG:=aA (G3 h5)
      have y1:(((rs.length:Nat):Int)+1==6)=false:=by simp;omega
      have b4:rs.length<6:=g1;clear G2 G3 ae a9 s2 g1;generalize hH:rs.length=H at*
      clear hH;go_wp2_with fail
      go_round
      .exact⟨j,(j:Int)-1,ts,rs++[bb],by omega,rfl,rfl,ei Value.string J.symm,by rw[a8.out],by rw[ai.out];go_num,HG⟩
      .first|(simp[intOf];done)|(simp[intOf];omega)
  .have aw:k=n:=by omega
   subst aw;rw[HT.out]at a;obtain⟨s1,s2,s3,s4⟩:=LP a.out;rw[H8.out]at s1;rw[a.out]at HE;clear HU aa a3 a7 a2 K a H8 HT;have HM:=aA (show (bs (t.map cP)).size=t.length by rw[AR,cL])
   generalize Q:bs (t.map cP)=S at*
   have J:=aA Q;clear Q;have HV:Hid (bT b<2^b.length):=s3
   have I:Hid (∀T:aT,T=lk (t,b)->∀z,z=(4-T.length%4)%4->bs T++bs (List.replicate z 61)=bs O):=fun T hT z hz=>by
    rw[iY,HE.out,<-hT,hz];rfl
   by_cases U:b.length=0
   .have am:b=[]:=fQ.1 U
    have L:Hid (∀z,z=(4-t.length%4)%4->S++bs (List.replicate z 61)=bs O):=fun z hz=>by
     have:=I (t.map cP) (by unfold lk;rw[am];simp) z (by rw[cL];exact hz);rw[J.out]at this;exact this
    have R:=HM.out;have hN:t.length<=3000:=by omega
    rw[U];clear I J am U HV HM s1 s2 s3 s4;generalize t.length=N at*
    go_wp2_with fail;generalize S=X at*
    obtain⟨P,hP⟩:=ex ((4-N%4)%4);have aq:P<=3:=by omega
    have ab:=aA (L P hP.symm);have y:Hid (∀p,p<=P->((N+p)%4=0↔p=P)):=fun p hp=>by omega
    have B:Hid (X++bs (List.replicate 0 61)=X):=ByteArray.append_empty
    have D:Hid (∀p,X++bs (List.replicate p 61)++⟨#[61]⟩=X++bs (List.replicate (p+1) 61)):=fun p=>by
     rw[ByteArray.append_assoc];have e:(⟨#[61]⟩:aJ)=bs [61]:=rfl;rw[e,iY,tE]
    have C:Hid (∀p,(X++bs (List.replicate p 61)).size=N+p):=fun p=>by rw[ni,AR,oY,R]
    clear R L hP
    go_loop [3,53,54,55,56,57,58] (fun s _ _ _ _ _ _=>∃p:Nat,p<=P/\s=.string (X++bs (List.replicate p 61))) (fun s _ _ _ _ _ _=>N+P-NB s)
    .exact⟨0,bW _,ei Value.string B.symm⟩
    .
     obtain⟨p,hp,rfl⟩:=hrel;have ac:=aA (D p);have a1:=C p;obtain⟨M,hM⟩:=ex (N+p);rw[hM]at a1;have ap:M<=4000:=by omega
     obtain⟨r,hr,G⟩:∃r:Nat,(M:Int)%4=(r:Int)/\M%4=r:=⟨M%4,by omega,rfl⟩;have f:=y p hp;rw[hM,G]at f;by_cases K:p<P
     .have y1:((r:Int)==0)=false:=by simp;omega
      have y2:((r:Int) != 0)=true:=by simp;omega
      have n1:¬9223372036854775807<M+1:=by omega
      have E:N+P-(M+1)<N+P-M:=by omega
      generalize X++bs (List.replicate p 61)=Y at*
      clear hM G f D C y B;go_wp2_with fail
      go_round
      .exact⟨p+1,by omega,ei Value.string ac⟩
      .
       show N+P-(Y++⟨#[61]⟩).size<N+P-Y.size;rw[ni,a1];exact E
     .have F:p=P:=by omega
      obtain rfl:r=0:=f.2 F;have HF:Hid (X++bs (List.replicate p 61)=bs O):=by rw[F];exact ab
      generalize X++bs (List.replicate p 61)=Y at*
      clear hM G f D C y B F;go_wp2_with fail;go_ret;exact⟨by rw[<-HF.out];rfl,rfl⟩
   .have ay:0<b.length:=by omega
    have L:Hid (∀z,z=(4-(t.length+1)%4)%4->S++bs [cP (bT b*2^(6-b.length))]++bs (List.replicate z 61)=bs O):=fun z hz=>by
     have:=I (t.map cP++[cP (bT b*2^(6-b.length))]) (by unfold lk;rw[aF (by intro e;exact U (by have e':b=[]:=e;rw[e'];rfl))]) z (by simp;exact hz);rw[<-I9,J.out]at this;exact this
    have a4:=HM.out;have az:t.length<=2900:=by omega
    clear I J U HM s1 s3 s4;generalize t.length=N0 at*
    generalize bT b=V at*
    generalize b.length=H at*
    go_wp2_with fail
    go_loop [4,5,41,42,43,44,45,46] (fun v hv _ _ _ _ _ _=>∃h:Nat,H<=h/\h<=6/\hv=.int .i64 (h:Int)/\v=.int .i64 ((V*2^(h-H):Nat):Int)) (fun _ hv _ _ _ _ _ _=>6-(intOf hv).toNat)
    .exact⟨H,aU _,by omega,rfl,by simp⟩
    .
     obtain⟨h,b1,av,rfl,rfl⟩:=hrel;have af:V*2^(h-H)<2^h:=by
      have e:2^H*2^(h-H)=2^h:=by rw[<-Cd,show H+(h-H)=h by omega]
      rw[<-e];exact FE HV (wQ (aH rfl))
     have Z:V*2^(h-H)<64:=dQ af (eu (nR (aH rfl) av) (aH rfl));by_cases K:h<6
     .have HN:Hid (V*2^(h+1-H)=2*(V*2^(h-H))):=by
       show _=_;rw[show h+1-H=(h-H)+1 by omega,qe,<-xr,pm]
      have i1:(h:Int)<6:=by omega
      clear af;generalize V*2^(h-H)=u at*
      go_wp2_with fail
      go_round
      .exact⟨h+1,by omega,by omega,by go_num,by rw[HN.out];go_num⟩
      .simp[intOf];omega
     .obtain rfl:h=6:=by omega
      have ag:=KA _ Z;have z1:(bs [cP (V*2^(6-H))]).size=1:=rfl;clear af;generalize V*2^(6-H)=u at*
      generalize bs [cP u]=d1 at*
      have n1:¬9223372036854775807<S.size+1:=by omega
      have b0:=nn u
      have b2:(u:Int)+1<=64:=by omega
      have b3:(u:Int)<=(u:Int)+1:=by omega
      have t1:((u:Int)+1).toNat=u+1:=by omega
      have w1:IntKind.i64.wrap ((u:Int)+1)=(u:Int)+1:=by rw[cV];omega
      go_wp2_with fail;have R:(S++d1).size=N0+1:=by rw[ni,a4,z1]
      have hN:N0+1<=3000:=by omega
      clear a4 z1 ag n1 b0 b2 b3 t1 w1;generalize N0+1=N at*
      generalize S++d1=X at*
      obtain⟨P,hP⟩:=ex ((4-N%4)%4);have aq:P<=3:=by omega
      have ab:=aA (L P hP.symm);have y:Hid (∀p,p<=P->((N+p)%4=0↔p=P)):=fun p hp=>by omega
      have B:Hid (X++bs (List.replicate 0 61)=X):=ByteArray.append_empty
      have D:Hid (∀p,X++bs (List.replicate p 61)++⟨#[61]⟩=X++bs (List.replicate (p+1) 61)):=fun p=>by
       rw[ByteArray.append_assoc];have e:(⟨#[61]⟩:aJ)=bs [61]:=rfl;rw[e,iY,tE]
      have C:Hid (∀p,(X++bs (List.replicate p 61)).size=N+p):=fun p=>by rw[ni,AR,oY,R]
      clear R L hP
      go_loop [3,53,54,55,56,57,58] (fun s _ _ _ _ _ _=>∃p:Nat,p<=P/\s=.string (X++bs (List.replicate p 61))) (fun s _ _ _ _ _ _=>N+P-NB s)
      .exact⟨0,bW _,ei Value.string B.symm⟩
      .
       obtain⟨p,hp,rfl⟩:=hrel;have ac:=aA (D p);have a1:=C p;obtain⟨M,hM⟩:=ex (N+p);rw[hM]at a1;have ap:M<=4000:=by omega
       obtain⟨r,hr,G⟩:∃r:Nat,(M:Int)%4=(r:Int)/\M%4=r:=⟨M%4,by omega,rfl⟩;have f:=y p hp;rw[hM,G]at f;by_cases K:p<P
       .have y1:((r:Int)==0)=false:=by simp;omega
        have y2:((r:Int) != 0)=true:=by simp;omega
        have n1:¬9223372036854775807<M+1:=by omega
        have E:N+P-(M+1)<N+P-M:=by omega
        generalize X++bs (List.replicate p 61)=Y at*
        clear hM G f D C y B;go_wp2_with fail
        go_round
        .exact⟨p+1,by omega,ei Value.string ac⟩
        .
         show N+P-(Y++⟨#[61]⟩).size<N+P-Y.size;rw[ni,a1];exact E
       .have F:p=P:=by omega
        obtain rfl:r=0:=f.2 F;have HF:Hid (X++bs (List.replicate p 61)=bs O):=by rw[F];exact ab
        generalize X++bs (List.replicate p 61)=Y at*
        clear hM G f D C y B F;go_wp2_with fail;go_ret;exact⟨by rw[<-HF.out];rfl,rfl⟩
end Go.Proofs.YtjfaogajmoffoaaGreatDoor
