/- Lemmas for VerifyStatus. -/
import Derived.Test.YtjfaogajmoffoaaGreatDoorQBA
import Derived.Deep.RegionHeld3
import Derived.Deep.RegionHeldLaw
set_option maxRecDepth 100000
set_option maxHeartbeats 16000000
set_option linter.all false
namespace Go.Proofs.YtjfaogajmoffoaaGreatDoor
open Go.RowKit Tryz
abbrev aT:=List UInt8
def dS(c:UInt8):aT->List aT
 |[]=>[[]]
 |x::xs=>if x=c then[]::dS c xs else match dS c xs with
  |[]=>[[x]]
  |h::t=>(x::h)::t
def sY{c:UInt8}:∀{s:aT},c ∉ s->dS c s=[s]
 |[],_=>rfl
 |x::xs,h=>by
  have a:x≠c:=fun e=>h (by rw[e];exact xN ..);have b:c ∉ xs:=fun e=>h (ul _ e);rw[dS,aF a,sY b]
def sV{c:UInt8}:∀{a:aT} (t:aT),c ∉ a->dS c (a++c::t)=a::dS c t
 |[],t,_=>by rw[mZ,dS,aG rfl]
 |x::xs,t,h=>by
  have b:x≠c:=fun e=>h (by rw[e];exact xN ..);have d:c ∉ xs:=fun e=>h (ul _ e);rw[mB,dS,aF b,sV t d]
def tB(c:UInt8):∀s:aT,c ∉ s\/∃a t,s=a++c::t/\c ∉ a
 |[]=>.inl (by simp)
 |x::xs=>by
  by_cases h:x=c
  .exact .inr ⟨[],xs,by rw[h];rfl,by simp⟩
  .rcases tB c xs with b|⟨a,t,rfl,d⟩
   .exact .inl (by simp[b,td h])
   .exact .inr ⟨x::a,t,rfl,by simp[d,td h]⟩
def uK(c:UInt8)(s:aT):dS c s≠[]:=by
 rcases tB c s with h|⟨a,t,rfl,h⟩
 .rw[sY h];simp
 .rw[sV t h];simp
def Hp{c:UInt8}:∀(n:Nat) (s:aT),s.length<=n->∀a∈dS c s,c ∉ a
 |n,s,hn,a,d=>by
  rcases tB c s with h|⟨b,t,rfl,h⟩
  .rw[sY h]at d;simp at d;subst d;exact h
  .rw[sV t h]at d
   rcases pc.1 d with rfl|d
   .exact h
   .cases n with
    |zero=>simp at hn
    |succ n=>exact Hp n t (by simp at hn;omega) a d
def ady{c:UInt8}{s a:aT}(h:a∈dS c s):c ∉ a:=Hp s.length s (aU _) a h
def t_(a b:aT)(l:List aT)(c:aT):Lib.join (a::b::l) c=a++c++Lib.join (b::l) c:=by
 simp[Lib.join,List.intercalate,List.intersperse]
def GH(c:UInt8):∀(n:Nat) (s:aT),s.length<=n->Lib.join (dS c s) [c]=s
 |n,s,hn=>by
  rcases tB c s with h|⟨b,t,rfl,h⟩
  .rw[sY h,nO]
  .rw[sV t h]
   cases n with
   |zero=>simp at hn
   |succ n=>
    have a:=GH c n t (by simp at hn;omega)
    cases hs:dS c t with
    |nil=>exact absurd hs (uK c t)
    |cons x l=>rw[t_,<-hs,a];simp
def ade(c:UInt8)(s:aT):Lib.join (dS c s) [c]=s:=GH c s.length s (aU _)
def Eg{c:UInt8}:∀{s:aT},c ∉ s->Lib.index s [c]= -1
 |[],_=>rfl
 |x::xs,h=>by
  have a:¬c=x:=fun e=>h (by rw[e];exact xN ..);have b:c ∉ xs:=fun e=>h (ul _ e);have d:([c]:aT).isPrefixOf (x::xs)=false:=by simp[List.isPrefixOf,a]
  rw[Lib.index,d,Eg b];first|done|rfl
def B_{c:UInt8}:∀{a:aT} (t:aT),c ∉ a->Lib.index (a++c::t) [c]=a.length
 |[],t,_=>by rw[mZ,Lib.index];simp[List.isPrefixOf]
 |x::xs,t,h=>by
  have b:¬c=x:=fun e=>h (by rw[e];exact xN ..);have d:c ∉ xs:=fun e=>h (ul _ e);have f:([c]:aT).isPrefixOf (x::(xs++c::t))=false:=by simp[List.isPrefixOf,b]
  rw[mB,Lib.index,f,B_ t d,aF (aH rfl),aF (by simp<;>omega)];simp
def I1{c:UInt8}{s:aT}(h:c ∉ s):Lib.cut s [c]=(s,[],false):=by
 unfold Lib.cut;rw[Eg h,aF (aH rfl)]
def Gb{c:UInt8}{a:aT}(t:aT)(h:c ∉ a):Lib.cut (a++c::t) [c]=(a,t,true):=by
 unfold Lib.cut;rw[B_ t h,aG (by omega)];simp
def Ew(c:UInt8):∀(n:Nat) (s:aT),s.length<=n->Lib.splitK [c] 0 (Lib.count s [c]) s=dS c s
 |n,s,hn=>by
  rcases tB c s with h|⟨b,t,rfl,h⟩
  .rw[Lib.count_miss (Eg h),sY h];rfl
  .rw[sV t h,Lib.count_hit (by simp) (B_ t h),pl 1]
   cases n with
   |zero=>simp at hn
   |succ n=>
    have f:=Ew c n t (by simp at hn;omega);rw[Lib.splitK,B_ t h,aF (by simp<;>omega)];have a:(b++c::t).take (((b.length:Int)).toNat+0)=b:=by simp
    have d:(b++c::t).drop (((b.length:Int)).toNat+([c]:aT).length)=t:=by simp
    have e:(b++c::t).drop (b.length+([c]:aT).length)=t:=by simp
    rw[a,d,e,f]
def L6(c:UInt8)(s:aT):(Lib.cut s [c]).1=(dS c s).headD []:=by
 rcases tB c s with h|⟨b,t,rfl,h⟩
 .rw[I1 h,sY h];rfl
 .rw[Gb t h,sV t h];rfl
def gH(c:UInt8):Bool:=decide (48<=c.toNat)&&decide (c.toNat<=57)
def fS(s:aT):Nat:=s.foldl (fun n c=>10*n+(c.toNat-48)) 0
def Do(s:aT)(c:UInt8):fS (s++[c])=10*fS s+(c.toNat-48):=by simp[fS]
def iB(s:aT):Bool:=decide (1<=s.length)&&decide (s.length<=7)&&!(decide (1<s.length)&&s.headD 0==48)&&s.all gH
def Tr(d:Nat)(h:d<10):(UInt8.ofNat (48+d)).toNat=48+d:=by
 rw[p9];omega
def Dn{u:Nat}(h:u<10):Lib.decDigits u=[UInt8.ofNat (48+u)]:=Lib.decDigits_one h
def FA{u:Nat}(h:¬u<10):Lib.decDigits u=Lib.decDigits (u/10)++[UInt8.ofNat (48+u%10)]:=by
 rw[Lib.decDigits,dif_neg h]
def Sz{a b:aT}(h:a≠[]):(a++b).headD 0=a.headD 0:=by cases a with|nil=>exact absurd rfl h|cons x l=>rfl
def Gj{u:Nat}(h:u<10):(Lib.decDigits u).length=1:=by rw[Dn h];rfl
def OQ(k u:Nat)(h:u<10^(k+1)):(Lib.decDigits u).length<=k+1:=by
 induction k generalizing u with
 |zero=>rw[Gj (by simpa using h)];omega
 |succ k b=>
  by_cases a:u<10
  .rw[Gj a];omega
  .rw[FA a,bV]
   have:=b (u/10) (by rw[qe]at h;omega);simp;omega
def aeV(s:aT)(e:s≠[])(d:s.all gH=true)(b:s.length=1\/(s.headD 0).toNat≠48):Lib.decDigits (fS s)=s/\((s.headD 0).toNat≠48->1<=fS s):=by
 have g:∀(n:Nat) (s:aT),s.length<=n->s≠[]->s.all gH=true->(s.length=1\/(s.headD 0).toNat≠48)->Lib.decDigits (fS s)=s/\((s.headD 0).toNat≠48->1<=fS s):=by
  intro n
  induction n with
  |zero=>intro s h e;exact absurd (fQ.1 (by omega)) e
  |succ n p=>
   intro s o e d b;rcases uI s with rfl|⟨t,c,rfl⟩
   .exact absurd rfl e
   .rw[wt]at*
    rw[rW,fH]at d;have r:48<=c.toNat/\c.toNat<=57:=by simpa[gH]using d.2
    have i:UInt8.ofNat (48+(c.toNat-48))=c:=by apply lP.1;rw[Tr _ (by omega)];omega
    rw[Do];by_cases f:t=[]
    .subst f
     refine⟨?_,fun h=>?_⟩
     .show Lib.decDigits (10*0+(c.toNat-48))=[c]
      rw[Nat.mul_zero,fB,Dn (by omega),i]
     .have h:c.toNat≠48:=h
      show 1<=10*0+(c.toNat-48);omega
    .have u:1<=t.length:=by cases t with|nil=>exact absurd rfl f|cons a l=>simp
     have j:(t.headD 0).toNat≠48:=by
      rcases b with b|b
      .rw[bV,jN]at b;omega
      .rwa[Sz f]at b
     obtain⟨k,m⟩:=p t (by simp at o;omega) f d.1 (.inr j);have q:=m j;refine⟨?_,fun _=>by omega⟩;rw[FA (by omega),show(10*fS t+(c.toNat-48))/10=fS t by omega,show(10*fS t+(c.toNat-48))%10=c.toNat-48 by omega,k,i]
 exact g s.length s (aU _) e d b
def L_:∀(s:aT),s.all gH=true->fS s<10^s.length:=by
 intro s h;have a:∀(n:Nat) (s:aT),s.length<=n->s.all gH=true->fS s<10^s.length:=by
  intro n
  induction n with
  |zero=>
   intro s h _;have e:s=[]:=fQ.1 (by omega);subst e;decide
  |succ n f=>
   intro s d b;rcases uI s with rfl|⟨t,c,rfl⟩
   .decide
   .rw[wt]at*
    rw[rW,fH]at b;have g:48<=c.toNat/\c.toNat<=57:=by simpa[gH]using b.2
    have:=f t (by simp at d;omega) b.1;rw[Do,bV,jN,qe];omega
 exact a s.length s (aU _) h
section
structure Cm where
 kind:Int
 target:Id
 group:ByteArray
 version:Int
 moderated:Bool
 mods:List cE
 text:ByteArray
 number:Int
 height:Int
 root:cE
 deriving DecidableEq
def aN(h:Int)(r:cE):bF:=.int .i64 h::bC r
def aL(c:Cm)(v:Value):bF:=[.int .i64 c.kind]++(bC c.target++([.string c.group,.int .i64 c.version,.bool c.moderated,v,.string c.text,.int .i64 c.number]++aN c.height c.root))
theorem bG(h:Int)(r:cE):(aN h r).length=17:=by simp[aN,a_]
theorem cA(c:Cm)(v:Value):(aL c v).length=56:=by simp[aL,a_,bG]
theorem zD(h:Int)(r:cE):cN (aN h r)=true:=by rw[aN,xg,uq];rfl
section
variable (c:Cm) (v:Value)
theorem I_:(aL c v)[0]? =some (.int .i64 c.kind):=rfl
theorem NU:dD (aL c v) 1 32=bC c.target:=by
 unfold aL;rw[eQ _ _ _ _ 1 rfl (aH rfl)];exact gP _ _ _ (a_ _)
theorem tA(k:Nat)(h:33<=k):(aL c v)[k]? =([Value.string c.group,.int .i64 c.version,.bool c.moderated,v,.string c.text,.int .i64 c.number]++aN c.height c.root)[k-33]? :=by
 unfold aL;rw[eY _ _ _ 1 rfl (by omega),eY _ _ _ 32 (a_ _) (by omega),wg]
theorem Gt:(aL c v)[33]? =some (.string c.group):=tA c v 33 (aH rfl)
theorem IH:(aL c v)[34]? =some (.int .i64 c.version):=tA c v 34 (aH rfl)
theorem Nt:(aL c v)[35]? =some (.bool c.moderated):=tA c v 35 (aH rfl)
theorem JN:(aL c v)[36]? =some v:=tA c v 36 (aH rfl)
theorem Ij:(aL c v)[37]? =some (.string c.text):=tA c v 37 (aH rfl)
theorem Gl:(aL c v)[38]? =some (.int .i64 c.number):=tA c v 38 (aH rfl)
theorem Gk:(aL c v)[39]? =some (.int .i64 c.height):=tA c v 39 (aH rfl)
theorem Ga:dD (aL c v) 39 17=aN c.height c.root:=by
 unfold aL;rw[eQ _ _ _ _ 1 rfl (aH rfl),eQ _ _ _ _ 32 (a_ _) (aH rfl),eQ _ _ _ _ 6 rfl (aH rfl)];exact b_ _ _ (bG _ _)
theorem CJ(h:Int)(r:cE):dD (aN h r) 1 16=bC r:=by
 unfold aN;rw[mr _ _ _ _ (aH rfl)];exact b_ _ _ (a_ _)
theorem Jv:dD (aL c v) 40 16=bC c.root:=by
 unfold aL;rw[eQ _ _ _ _ 1 rfl (aH rfl),eQ _ _ _ _ 32 (a_ _) (aH rfl),eQ _ _ _ _ 6 rfl (aH rfl)];exact CJ _ _
theorem vy:dD (aL c v) 0 56=aL c v:=b_ _ _ (cA c v)
theorem PD(h:0<(aL c v).length):(aL c v)[0]=.int .i64 c.kind:=jM (I_ c v) h
theorem U8(h:33<(aL c v).length):(aL c v)[33]=.string c.group:=jM (Gt c v) h
theorem Zh(h:34<(aL c v).length):(aL c v)[34]=.int .i64 c.version:=jM (IH c v) h
theorem XP(h:35<(aL c v).length):(aL c v)[35]=.bool c.moderated:=jM (Nt c v) h
theorem Ri(h:36<(aL c v).length):(aL c v)[36]=v:=jM (JN c v) h
theorem Xz(h:37<(aL c v).length):(aL c v)[37]=.string c.text:=jM (Ij c v) h
theorem Xd(h:38<(aL c v).length):(aL c v)[38]=.int .i64 c.number:=jM (Gl c v) h
theorem aaV(h:39<(aL c v).length):(aL c v)[39]=.int .i64 c.height:=jM (Gk c v) h
theorem DI(a:v.oneCell'=true):cN (aL c v)=true:=by
 rw[aL,iI,iI,iI,uq,zD];simp only[cN,nm,rP,a,pW];rfl
end
def aQ:cE:=Vector.replicate 16 0
def bM:Id:=Vector.replicate 32 0
def aV(k:Int):Cm:=⟨k,bM,⟨#[]⟩,0,false,[],⟨#[]⟩,0,0,aQ⟩
def bs(l:aT):ByteArray:=⟨l.toArray⟩
theorem oQ(l:aT):bl (bs l)=l:=rfl
theorem CO(s:aJ):bs (bl s)=s:=rfl
end
def Gu:aT:=[48,49,50,51,52,53,54,55,56,57,97,98,99,100,101,102]
def fq(c:UInt8):Int:=Lib.indexByte Gu c
def fY(c:UInt8):UInt8:=UInt8.ofNat (fq c).toNat
def fE(c:UInt8):Bool:=decide (0<=fq c)
def fu(n:Nat):UInt8:=Gu.getD n 0
def dF(l:aM):aT:=l.flatMap fun b=>[fu (b.toNat/16),fu (b.toNat%16)]
def gK:aT->List UInt8
 |a::b::l=>(fY a<<<4|||fY b)::gK l
 |_=>[]
def lX(n:Nat)(l:aM):Vector UInt8 n:=Vector.ofFn fun i=>l.getD i.val 0
def rM{n:Nat}{l:aM}(h:l.length=n):(lX n l).toList=l:=by
 apply rD;intro i;rw[qz];by_cases hi:i<n
 .rw[qB hi]
  simp[lX,hi,h]
 .rw[Vector.getElem?_eq_none (by omega),kZ (by omega)]
def qA{p:UInt8->Prop}(h:∀i:Fin 256,p (UInt8.ofNat i.val))(c:UInt8):p c:=by
 have:=h ⟨c.toNat,c.toNat_lt⟩;simpa using this
def uv:∀c:UInt8,fE c=true->fu (fq c).toNat=c/\(fq c).toNat<16/\(fY c).toNat=(fq c).toNat:=qA (by decide+kernel)
def acT:∀i j:Fin 16,(UInt8.ofNat i.val<<<4|||UInt8.ofNat j.val).toNat=16*i.val+j.val:=by decide+kernel
def Ov(i j:Nat)(hi:i<16)(a:j<16):(UInt8.ofNat i<<<4|||UInt8.ofNat j).toNat=16*i+j:=acT ⟨i,hi⟩ ⟨j,a⟩
def I0(b:UInt8)(l:aM):dF (b::l)=fu (b.toNat/16)::fu (b.toNat%16)::dF l:=rfl
def qv(l:aM):(dF l).length=2*l.length:=by
 induction l with
 |nil=>rfl
 |cons b l a=>rw[I0];simp only[dN,a];omega
def ST:∀(n:Nat) (s:aT),s.length=2*n->s.all fE=true->dF (gK s)=s
 |0,s,h,_=>by
  have e:s=[]:=fQ.1 (by omega);subst e;rfl
 |n+1,s,h,hd=>by
  obtain⟨a,b,l,rfl⟩:∃a b l,s=a::b::l:=by
   match s,h with
   |a::b::l,_=>exact⟨a,b,l,rfl⟩
   |[a],h=>simp at h;omega
   |[],h=>simp at h
  simp only[nm,fH]at hd;obtain⟨c,d,j⟩:=uv a hd.1;obtain⟨f,g,k⟩:=uv b hd.2.1;have i:=Ov (fq a).toNat (fq b).toNat d g;rw[gK,I0,ST n l (by simp at h;omega) hd.2.2];have e:(fY a<<<4|||fY b).toNat=16*(fq a).toNat+(fq b).toNat:=i;rw[e,show(16*(fq a).toNat+(fq b).toNat)/16=(fq a).toNat by omega,show(16*(fq a).toNat+(fq b).toNat)%16=(fq b).toNat by omega,c,f]
def su:∀(n:Nat) (s:aT),s.length=2*n->(gK s).length=n
 |0,s,h=>by
  have e:s=[]:=fQ.1 (by omega);subst e;rfl
 |n+1,s,h=>by
  match s,h with
  |a::b::l,h=>rw[gK,dN,su n l (by simp at h;omega)]
  |[a],h=>simp at h;omega
  |[],h=>simp at h
def yG(l:aM)(i:Nat)(v:UInt8):aM:=l.set (i/2) (l.getD (i/2) 0<<<4|||v)
def dV(n:Nat)(s:aT):Nat->List UInt8
 |0=>List.replicate n 0
 |i+1=>yG (dV n s i) i (fY (s.getD i 0))
def rL(n:Nat)(s:aT):∀i,(dV n s i).length=n
 |0=>by simp[dV]
 |i+1=>by rw[dV,yG,List.length_set,rL n s i]
def Yv:∀v:UInt8,(((0:UInt8)<<<4|||v))=v:=qA (by decide+kernel)
def CB:∀(j:Nat) (s:aT),2*j+1<s.length->(gK s)[j]? =some (fY (s.getD (2*j) 0)<<<4|||fY (s.getD (2*j+1) 0))
 |0,s,h=>by
  match s,h with
  |a::b::l,_=>rfl
  |[a],h=>simp at h
  |[],h=>simp at h
 |j+1,s,h=>by
  match s,h with
  |a::b::l,h=>
   rw[gK,xt,CB j l (by simp at h;omega)];rw[show 2*(j+1)=2*j+1+1 by omega];rfl
  |[a],h=>simp at h
  |[],h=>simp at h
def JB(n:Nat)(s:aT)(c:s.length=2*n):∀j,j<=n->dV n s (2*j)=(gK s).take j++List.replicate (n-j) 0
 |0,_=>by simp[dV]
 |j+1,h=>by
  have m:=JB n s c j (by omega);have o:=su n s c;have e:2*(j+1)=2*j+1+1:=by omega
  have b:=CB j s (by omega);have d:((gK s).take j).length=j:=by rw[dP];omega
  have l:List.replicate (n-j) (0:UInt8)=0::List.replicate (n-(j+1)) 0:=by rw[show n-j=(n-(j+1))+1 by omega];rfl
  rw[e,dV,dV,m,l];have i:2*j/2=j:=by omega
  have k:(2*j+1)/2=j:=by omega
  have f:∀(v:UInt8) (r:aM),((gK s).take j++v::r).getD j 0=v:=by
   intro v r;rw[eD,rR (by omega),d,qR];rfl
  have g:∀(v u:UInt8) (r:aM),((gK s).take j++v::r).set j u=(gK s).take j++u::r:=by
   intro v u r;rw[pu _ _ (by omega),d,qR];rfl
  unfold yG;rw[i,k,f,g,f,g,Yv];have a:j<(gK s).length:=by omega
  rw[eF a,fl,yV];rw[cO a]at b;rw[iP b]
def Lk(n:Nat)(s:aT)(a:s.length=2*n):dV n s (2*n)=gK s:=by
 rw[JB n s a n (aU _),qR,eq (by rw[su n s a];exact aU _)];simp
def bT(l:List Bool):Nat:=l.foldl (fun n b=>2*n+b.toNat) 0
def qk(l:List Bool)(b:Bool):bT (l++[b])=2*bT l+b.toNat:=by simp[bT]
def AU(a:List Bool):∀b:List Bool,bT (a++b)=bT a*2^b.length+bT b:=by
 intro b;have d:∀(n:Nat) (b:List Bool),b.length=n->bT (a++b)=bT a*2^b.length+bT b:=by
  intro n
  induction n with
  |zero=>intro b h;rw[fQ.1 h];simp[bT]
  |succ n f=>
   intro b h;rcases uI b with rfl|⟨t,c,rfl⟩
   .simp at h
   .rw[wt]at*
    have e:t.length=n:=by simpa using h
    rw[<-fl,qk,qk,f t e,bV,jN,qe,Nat.mul_add,<-xr (bT a) _ 2,pm 2 (bT a*2^t.length),l8]
 exact d b.length b rfl
def oP:∀l:List Bool,bT l<2^l.length:=by
 intro l;have a:∀(n:Nat) (l:List Bool),l.length=n->bT l<2^l.length:=by
  intro n
  induction n with
  |zero=>intro b h;rw[fQ.1 h];decide
  |succ n d=>
   intro b h;rcases uI b with rfl|⟨t,c,rfl⟩
   .simp at h
   .rw[wt]at*
    have:=d t (by simpa using h);rw[qk,bV,jN,qe]
    cases c<;>simp[Bool.toNat]<;>omega
 exact a l.length l rfl
def eN:Nat->Nat->List Bool
 |0,_=>[]
 |k+1,v=>eN k (v/2)++[v%2==1]
def p8:∀k v,(eN k v).length=k
 |0,_=>rfl
 |k+1,v=>by rw[eN,bV,p8 k];rfl
def DM:∀k v,v<2^k->bT (eN k v)=v
 |0,v,h=>by
  have:v=0:=by simpa using h
  rw[this];rfl
 |k+1,v,h=>by
  rw[eN,qk,DM k (v/2) (by rw[qe]at h;omega)];have:(v%2==1).toNat=v%2:=by
   rcases Dh v with e|e<;>rw[e]<;>rfl
  rw[this];omega
def Ed:∀(k:Nat) (l:List Bool),l.length=k->eN k (bT l)=l
 |0,l,h=>by rw[fQ.1 h];rfl
 |k+1,l,h=>by
  rcases uI l with rfl|⟨t,c,rfl⟩
  .simp at h
  .rw[wt]at*
   rw[eN,qk];have d:t.length=k:=by simpa using h
   have a:(2*bT t+c.toNat)/2=bT t:=by cases c<;>simp[Bool.toNat]<;>omega
   have b:((2*bT t+c.toNat)%2==1)=c:=by cases c<;>simp[Bool.toNat]<;>omega
   rw[a,b,Ed k t d]
def ov(k:Nat):Nat->List Bool->List Nat×List Bool
 |0,l=>([],l)
 |f+1,l=>if l.length<k then([],l)else(bT (l.take k)::(ov k f (l.drop k)).1,(ov k f (l.drop k)).2)
def cJ(k:Nat)(l:List Bool):List Nat×List Bool:=ov k l.length l
def IM(k:Nat)(a:0<k):∀(f g:Nat) (l:List Bool),l.length<=f->l.length<=g->ov k f l=ov k g l
 |0,0,_,_,_=>rfl
 |0,g+1,l,h,_=>by rw[ov,ov,aG (by omega)]
 |f+1,0,l,_,h=>by rw[ov,ov,aG (by omega)]
 |f+1,g+1,l,h1,h2=>by
  rw[ov,ov];split
  .rfl
  .rw[IM k a f g (l.drop k) (by simp;omega) (by simp;omega)]
def po{k:Nat}{l:List Bool}(h:l.length<k):cJ k l=([],l):=by
 unfold cJ
 cases e:l.length with
 |zero=>rfl
 |succ n=>rw[ov,aG h]
def FM{k:Nat}(hk:0<k){a l:List Bool}(h:a.length=k):cJ k (a++l)=(bT a::(cJ k l).1,(cJ k l).2):=by
 unfold cJ;rw[List.length_append,h];obtain⟨j,rfl⟩:=Nat.exists_eq_succ_of_ne_zero (Nat.ne_of_gt hk);rw[Nat.succ_add,ov,if_neg (by simp[h]),List.take_left' h,List.drop_left' h,IM _ hk (j+l.length) l.length l (by omega) (Nat.le_refl _)]
def vn{k:Nat}(hk:0<k){l:List Bool}(h:k<=l.length):cJ k l=(bT (l.take k)::(cJ k (l.drop k)).1,(cJ k (l.drop k)).2):=by
 have:=FM hk (a:=l.take k) (l:=l.drop k) (by rw[List.length_take];omega);rwa[List.take_append_drop]at this
def sM{k:Nat}(a:0<k):∀(n:Nat) (l:List Bool),l.length<=n->(cJ k l).2.length<k
 |0,l,h=>by rw[po (by omega)];show l.length<k;omega
 |n+1,l,h=>by
  by_cases b:l.length<k
  .rw[po b];exact b
  .rw[vn a (by omega)];exact sM a n (l.drop k) (by simp;omega)
def yu{k:Nat}(c:0<k):∀(n:Nat) (a b:List Bool),a.length<=n->cJ k (a++b)=((cJ k a).1++(cJ k ((cJ k a).2++b)).1,(cJ k ((cJ k a).2++b)).2)
 |0,a,b,h=>by
  have e:a=[]:=fQ.1 (by omega);subst e;rw[po (k:=k) (l:=[]) c];rfl
 |n+1,a,b,h=>by
  by_cases d:a.length<k
  .rw[po d];rfl
  .rw[vn c (l:=a) (by omega),vn c (l:=a++b) (by simp;omega),us (by omega),sH (by omega),yu c n (a.drop k) b (by simp;omega)]
   rfl
def Fy{k:Nat}(a:0<k):∀(n:Nat) (l:List Bool),l.length<=n->(cJ k l).1.flatMap (eN k)++(cJ k l).2=l/\∀v∈(cJ k l).1,v<2^k
 |0,l,h=>by
  have e:l=[]:=fQ.1 (by omega);subst e;rw[po (k:=k) (l:=[]) a];exact⟨rfl,fun v hv=>by cases hv⟩
 |n+1,l,h=>by
  by_cases f:l.length<k
  .rw[po f];exact⟨rfl,fun v hv=>by cases hv⟩
  .have b:(l.take k).length=k:=by rw[dP];omega
   obtain⟨c,d⟩:=Fy a n (l.drop k) (by simp;omega);rw[vn a (by omega)];refine⟨?_,fun v hv=>?_⟩
   .show(bT (l.take k)::(cJ k (l.drop k)).1).flatMap (eN k)++(cJ k (l.drop k)).2=l
    rw[n_,Ed k _ b,fl,c,lq]
   .rcases pc.1 hv with rfl|hv
    .have:=oP (l.take k);rwa[b]at this
    .exact d v hv
def yX:aT:=[65,66,67,68,69,70,71,72,73,74,75,76,77,78,79,80,81,82,83,84,85,86,87,88,89,90,97,98,99,100,101,102,103,104,105,106,107,108,109,110,111,112,113,114,115,116,117,118,119,120,121,122,48,49,50,51,52,53,54,55,56,57,43,47]
def cP(v:Nat):UInt8:=yX.getD v 0
def gN(c:UInt8):Int:=Lib.indexByte yX c
def fp(c:UInt8):Bool:=decide (0<=gN c)
def UT:∀i:Fin 64,gN (cP i.val)=i.val/\cP i.val≠61/\cP i.val≠32/\cP i.val≠44/\32<cP i.val/\cP i.val<127:=by decide+kernel
def BJ{i:Nat}(h:i<64):gN (cP i)=i/\cP i≠61/\cP i≠32/\cP i≠44/\32<cP i/\cP i<127:=UT ⟨i,h⟩
def Cu:∀c:UInt8,fp c=true->cP (gN c).toNat=c/\(gN c).toNat<64:=qA (by decide+kernel)
def WI:fp 61=false:=by decide+kernel
def lk(r:List Nat×List Bool):aT:=r.1.map cP++(if r.2=[]then[]else[cP (bT r.2*2^(6-r.2.length))])
def rO(t:aT):aT:=t++List.replicate ((4-t.length%4)%4) 61
def gk(l:aM):List Bool:=l.flatMap fun b=>eN 8 b.toNat
def qW(l:aM):aT:=rO (lk (cJ 6 (gk l)))
def d'(s:aT):Nat:=
 if s.length=0\/s.length%4≠0\/s.getD (s.length-1) 0≠61 then s.length else if s.getD (s.length-2) 0=61 then s.length-2 else s.length-1
def e_(s:aT):List Bool:=s.flatMap fun c=>eN 6 (gN c).toNat
def rz(s:aT):List Nat×List Bool:=cJ 8 (e_ (s.take (d' s)))
def oB(s:aT):Nat:=((s.take (d' s)).takeWhile fp).length
def fD(s:aT):Int:=
 if 174764<s.length then 5 else if oB s<d' s then 6 else if s.length%4≠0 then 4 else if bT (rz s).2≠0 then 3 else 0
def ie(s:aT):aM:=(rz s).1.map UInt8.ofNat
def aa0(n:Nat):bT (List.replicate n false)=0:=by
 induction n with
 |zero=>rfl
 |succ n a=>rw[tE,qk,a];rfl
def zf(l:aM):(gk l).length=8*l.length:=by
 induction l with
 |nil=>rfl
 |cons b l a=>unfold gk at*;rw[n_,bV,a,p8,dN];omega
def zA(s:aT):(e_ s).length=6*s.length:=by
 induction s with
 |nil=>rfl
 |cons b l a=>unfold e_ at*;rw[n_,bV,a,p8,dN];omega
def xw{k:Nat}(b:0<k)(l:List Bool):k*(cJ k l).1.length+(cJ k l).2.length=l.length:=by
 have h:=(Fy b l.length l (aU _)).1;have e:∀a:List Nat,(a.flatMap (eN k)).length=k*a.length:=by
  intro a
  induction a with
  |nil=>rfl
  |cons v a c=>rw[n_,bV,c,p8,dN,Nat.mul_succ];omega
 have:=ei List.length h;rw[bV,e]at this;exact this
def ET(a:List Nat)(h:∀v∈a,v<64):e_ (a.map cP)=a.flatMap (eN 6):=by
 induction a with
 |nil=>rfl
 |cons v a c=>
  unfold e_ at*
  rw[gt,n_,n_,c (fun x b=>h x (by simp[b])),(BJ (h v (by simp))).1];rfl
def abl(l:List Bool):∃p,p<6/\e_ (lk (cJ 6 l))=l++List.replicate p false/\(lk (cJ 6 l)).all fp=true:=by
 obtain⟨i,h⟩:=Fy (k:=6) (aH rfl) l.length l (aU _);have q:=sM (k:=6) (aH rfl) l.length l (aU _);generalize cJ 6 l=r at*
 obtain⟨g,a⟩:=r;simp only at i h q;have f:(g.map cP).all fp=true:=by
  rw[gY];intro c t;obtain⟨v,f,rfl⟩:=iQ.1 t;unfold fp;rw[(BJ (h v f)).1];simp
 unfold lk;by_cases d:a=[]
 .refine⟨0,by decide,?_,by simpa[d]using f⟩
  rw[aG d,je,ET g h,<-i,d];simp
 .have j:=oP a
  have b:bT a*2^(6-a.length)<64:=by
   have e:2^a.length*2^(6-a.length)=64:=by rw[<-Cd,show a.length+(6-a.length)=6 by omega]
   rw[<-e];exact FE j (wQ (aH rfl))
  refine⟨6-a.length,?_,?_,?_⟩
  .have:0<a.length:=rd.2 d
   omega
  .rw[aF d]
   have m:e_ (g.map cP++[cP (bT a*2^(6-a.length))])=e_ (g.map cP)++e_ [cP (bT a*2^(6-a.length))]:=by unfold e_;rw[pG]
   have n:e_ [cP (bT a*2^(6-a.length))]=a++List.replicate (6-a.length) false:=by
    have:e_ [cP (bT a*2^(6-a.length))]=eN 6 (bT a*2^(6-a.length)):=by
     have:=ET [bT a*2^(6-a.length)] (by intro v f;rw[sN.1 f];exact b);simpa using this
    rw[this];have o:bT (a++List.replicate (6-a.length) false)=bT a*2^(6-a.length):=by rw[AU,aa0,oY,ms]
    rw[<-o,Ed 6 _ (by simp;omega)]
   rw[m,n,ET g h,<-i,fl]
  .have s:fp (cP (bT a*2^(6-a.length)))=true:=by
    unfold fp;rw[(BJ b).1];exact fm (F7 _)
   rw[aF d,rW,f,nm,s];rfl
def JX{p:UInt8->Bool}:∀{s:aT},s.all p=true->(s.takeWhile p).length=s.length
 |[],_=>rfl
 |c::s,h=>by
  simp only[nm,fH]at h;rw[r',aG h.1,dN,JX h.2,dN]
def RV(l:aM):∃t p,qW l=rO t/\t.all fp=true/\e_ t=gk l++List.replicate p false/\p<6/\6*t.length=8*l.length+p:=by
 obtain⟨p,c,b,a⟩:=abl (gk l);refine⟨lk (cJ 6 (gk l)),p,rfl,a,b,c,?_⟩;have:=ei List.length b;rw[zA,bV,zf,oY]at this;exact this
def FQ(s:aT):d' s<=s.length/\s.length<=d' s+2/\s=s.take (d' s)++List.replicate (s.length-d' s) 61:=by
 unfold d';by_cases h:s.length=0\/s.length%4≠0\/s.getD (s.length-1) 0≠61
 .rw[aG h]
  refine⟨aU _,by omega,?_⟩;rw[qR,jS];simp
 .rw[aF h]
  have i:s.length≠0:=fun e=>h (.inl e);have j:s.length%4=0:=qi fun e=>h (.inr (.inl e));have g:s.getD (s.length-1) 0=61:=qi fun e=>h (.inr (.inr e));have c:∀k,k<s.length->s.drop k=s.getD k 0::s.drop (k+1):=fun k d=>by rw[kR d,eD,cO d];rfl
  have b:s.drop (s.length-1)=[61]:=by rw[c _ (by omega),g,show s.length-1+1=s.length by omega,tt]
  by_cases a:s.getD (s.length-2) 0=61
  .rw[aG a]
   refine⟨by omega,by omega,?_⟩;have f:s.drop (s.length-2)=[61,61]:=by rw[c _ (by omega),a,show s.length-2+1=s.length-1 by omega,b]
   rw[show s.length-(s.length-2)=2 by omega]
   conv=>lhs;rw[<-lq (s.length-2) s,f]
   rfl
  .rw[aF a]
   refine⟨by omega,by omega,?_⟩;rw[show s.length-(s.length-1)=1 by omega]
   conv=>lhs;rw[<-lq (s.length-1) s,b]
   rfl
def nV(s:aT):Nat:=(s.takeWhile fE).length
def gZ(s:aT):Int×Int:=
 if nV s<min s.length 32 then(nV s,6)else if s.length<32 then(s.length,4)else if 32<s.length then(32,5)else(0,0)
def pR(s:aT):cE:=if(gZ s).2=0 then lX 16 (gK s)else aQ
def CF(k:Int):aT:=
 if k=1 then[99,97,110,99,101,108]else if k=2 then[97,112,112,114,111,118,101]else if k=3 then[100,101,102,105,110,101]
 else if k=4 then[114,101,109,111,118,101]else if k=5 then[114,101,107,101,121]else[]
def eP:List cE->Bool
 |[]=>true
 |[_]=>true
 |a::b::l=>decide (Lib.compareBytes a.toList b.toList<0)&&eP (b::l)
def rX(l:List cE):Int:=if l.length=0 then 1 else if 8<l.length then 9 else if eP l=false then 30 else 0
def kY(s:aT):Int:=
 if 200<s.length then 5 else if(s.any fun c=>decide (c<32)||decide (126<c))=true then 6 else if s.head? =some 32\/s.getLast? =some 32 then 3 else 0
def cH(h:Int):Int:=if h<1\/8<h then 2 else 0
structure PS where
 start:Nat
 fin:Nat
 rest:List aT
 at_:Nat
 e:Int
def PS.fail(p:PS)(a:Nat)(e:Int):PS:=if p.e=0/\e≠0 then { p with at_:=a,e:=e }else p
def PS.next(n:Nat)(p:PS):PS×aT×Bool:=
 if p.e≠0 then(p,[],false)else match p.rest with
 |[]=>({ p with at_:=n,e:=4 },[],false)
 |w::rest=>({ p with start:=p.fin+1,fin:=p.fin+1+w.length,rest:=rest },w,true)
def pt(l:List aT):aT:=l.flatMap fun w=>32::w
def dH(s:aT)(p:PS):Prop:=p.fin<=s.length/\s.drop p.fin=pt p.rest/\∀w∈p.rest,32 ∉ w
def BP(w:aT)(l:List aT):pt (w::l)=32::(w++pt l):=by simp[pt]
def dH.cut{s:aT}{p:PS}{w:aT}{rest:List aT}(h:dH s p)(e:p.rest=w::rest):(Lib.cut (s.drop (p.fin+1)) [32]).1=w/\dH s { p with start:=p.fin+1,fin:=p.fin+1+w.length,rest:=rest }/\p.fin+1<=s.length:=by
 obtain⟨i,a,b⟩:=h;rw[e,BP]at a;rw[e]at b;have f:32 ∉ w:=b w (by simp);have c:s.drop (p.fin+1)=w++pt rest:=by rw[<-nD,a];rfl
 have d:p.fin+1+w.length+(pt rest).length=s.length:=by
  have:=ei List.length a;simp only[eh,dN,bV]at this;omega
 refine⟨?_,⟨by show p.fin+1+w.length<=s.length;omega,?_,fun x g=>b x (by simp[g])⟩,by omega⟩
 .rw[c]
  cases rest with
  |nil=>rw[show pt []=[]from rfl,je,I1 f]
  |cons x l=>rw[BP,Gb _ f]
 .show s.drop (p.fin+1+w.length)=pt rest
  rw[<-nD,c,ZO]
def dH.end_{s:aT}{p:PS}(h:dH s p):p.rest=[]↔p.fin=s.length:=by
 obtain⟨a,h2,_⟩:=h;constructor
 .intro e
  rw[e,show pt []=[]from rfl]at h2;have:=ei List.length h2;simp at this;omega
 .intro e
  rw[e,tt]at h2
  cases hr:p.rest with
  |nil=>rfl
  |cons w l=>rw[hr,BP]at h2;cases h2
section
def jK:aT:=[64,104,97,115,104,62]
def ic(i:Id):aT:=60::(dF i.toList++jK)
def ix(w:aT):Bool:=decide (w.length=71)&&w.headD 0==60&&((w.drop 1).take 64).all fE&&w.drop 65==jK
def eI(w:aT):Id:=if ix w=true then lX 32 (gK ((w.drop 1).take 64))else bM
def nt:aT:=[111,112,101,110]
def kd:aT:=[109,111,100,101,114,97,116,101,100]
def kH(w:aT):Int:=if ix w=false then 3 else if eI w=bM then 1 else 0
def jW(w:aT):Int:=if jt (bs w)≠0 then 12 else 0
def ja(lo hi:Int)(w:aT):Int:=if iB w=false then 3 else if(fS w:Int)<lo\/hi<(fS w:Int)then 2 else 0
def lR(w:aT):Int:=if iB w=true then(fS w:Int)else 0
def oc(w:aT):List cE:=(dS 44 w).map pR
def lJ(w:aT):Int:=if((dS 44 w).any fun x=>decide ((gZ x).2≠0))=true then 3 else if 8<(dS 44 w).length then 9 else if eP (oc w)=false then 30 else 0
def kT(t:aT):Int:=if t=[]then 4 else kY t
section
variable (n:Nat)
def PS.targetP(p:PS):PS×Id:=if(p.next n).2.2=true then((p.next n).1.fail (p.next n).1.start (kH (p.next n).2.1),eI (p.next n).2.1)else((p.next n).1,bM)
def PS.groupP(p:PS):PS×aT:=if(p.next n).2.2=true then((p.next n).1.fail (p.next n).1.start (jW (p.next n).2.1),(p.next n).2.1)else((p.next n).1,[])
def PS.numP(lo hi:Int)(p:PS):PS×Int:=if(p.next n).2.2=true then((p.next n).1.fail (p.next n).1.start (ja lo hi (p.next n).2.1),lR (p.next n).2.1)else((p.next n).1,0)
def PS.autsP(p:PS):PS×Bool×List cE:=if(p.next n).2.2=true then((p.next n).1.fail (p.next n).1.start (lJ (p.next n).2.1),true,oc (p.next n).2.1)else((p.next n).1,true,[])
def PS.modeP(p:PS):PS×Bool×List cE:=
 if(p.next n).2.2=false\/(p.next n).2.1=nt then((p.next n).1,false,[])
 else if(p.next n).2.1≠kd then((p.next n).1.fail (p.next n).1.start 3,false,[])else(p.next n).1.autsP n
end
def PS.restP(s:aT)(p:PS):PS×aT:=
 if p.e≠0\/p.rest=[]then(p,[])else(({ p with start:=p.fin+1,fin:=s.length,rest:=[] }:PS).fail (p.fin+1) (kT (s.drop (p.fin+1))),s.drop (p.fin+1))
theorem dH.fail{s:aT}{p:PS}(h:dH s p)(a:Nat)(e:Int):dH s (p.fail a e):=by
 unfold PS.fail;split
 .exact h
 .exact h
theorem dH.next{s:aT}{p:PS}(h:dH s p)(n:Nat):dH s (p.next n).1:=by
 unfold PS.next;split
 .exact h
 .split
  .exact h
  .rename_i a;exact(h.cut a).2.1
theorem dH.target{s:aT}{p:PS}(h:dH s p)(n:Nat):dH s (p.targetP n).1:=by
 unfold PS.targetP;split
 .exact(h.next n).fail _ _
 .exact h.next n
theorem dH.group{s:aT}{p:PS}(h:dH s p)(n:Nat):dH s (p.groupP n).1:=by
 unfold PS.groupP;split
 .exact(h.next n).fail _ _
 .exact h.next n
theorem dH.num{s:aT}{p:PS}(h:dH s p)(n:Nat)(lo hi:Int):dH s (p.numP n lo hi).1:=by
 unfold PS.numP;split
 .exact(h.next n).fail _ _
 .exact h.next n
theorem dH.auts{s:aT}{p:PS}(h:dH s p)(n:Nat):dH s (p.autsP n).1:=by
 unfold PS.autsP;split
 .exact(h.next n).fail _ _
 .exact h.next n
theorem dH.mode{s:aT}{p:PS}(h:dH s p)(n:Nat):dH s (p.modeP n).1:=by
 unfold PS.modeP;split
 .exact h.next n
 .split
  .exact(h.next n).fail _ _
  .exact(h.next n).auts n
theorem dH.rest{s:aT}{p:PS}(h:dH s p):dH s (p.restP s).1:=by
 unfold PS.restP;split
 .exact h
 .exact dH.fail ⟨aU _,by rw[tt];rfl,fun _ hw=>by cases hw⟩ _ _
theorem dH.start{s w:aT}{e:List aT}(h:dS 32 s=w::e):dH s ⟨0,w.length,e,0,0⟩:=by
 have c:=ade 32 s;rw[h]at c;have d:∀(l:List aT) (a:aT),Lib.join (a::l) [32]=a++pt l:=by
  intro l
  induction l with
  |nil=>intro a;rw[nO,show pt []=[]from rfl,je]
  |cons b l g=>intro a;rw[t_,g b,BP];simp
 rw[d]at c;refine⟨by rw[<-c];simp,by rw[<-c];simp,fun x f=>ady (by rw[h];exact ul _ f)⟩
end
@[go_sem] def afE:dZ prog 87 =true:=by kernel_rfl
@[go_sem] def ae6:dZ prog 44 =true:=by kernel_rfl
@[go_sem] def QT:dZ prog 22 =true:=by kernel_rfl
@[go_sem] def ahd:dZ prog 25 =true:=by kernel_rfl
@[go_sem] def afA:dZ prog 66 =true:=by kernel_rfl
@[go_sem] def aeB:prog.cellsOf 87 =56:=by kernel_rfl
@[go_sem] def ag2:prog.cellsOf 44 =17:=by kernel_rfl
@[go_sem] def ru:prog.cellsOf 22 =16:=by kernel_rfl
@[go_sem] def afR:prog.cellsOf 25 =32:=by kernel_rfl
@[go_sem] def afm:prog.cellsOf 66 =56:=by kernel_rfl
@[go_sem] def afF (x y:cE) (w:aB):Sem.run prog (Op.equalIn 10000 22 (aE (bC x)) (aE (bC y))) w=.ok (x==y) w:=tr w 9998 underlying22 underlying5 cellsByte x y
@[go_sem] def ahA (x y:Id) (w:aB):Sem.run prog (Op.equalIn 10000 25 (aE (bC x)) (aE (bC y))) w=.ok (x==y) w:=tr w 9998 underlying25 underlying5 cellsByte x y
@[go_sem] def ael:prog.eqGuardType prog.depth 22 =false:=by kernel_rfl
@[go_sem] def ahs:prog.eqGuardType prog.depth 25 =false:=by kernel_rfl
@[go_sem] def aha:prog.eqGuardType prog.depth 44 =false:=by kernel_rfl
def Vh{P:Program}(w:aB){t:TypeId}(h:dZ P t=true)(cs:bF)(k:Nat):(part t cs.toArray k).run P w=.ok (aE (dD cs k (P.cellsOf t))) w:=by
 simp[part,nc,Gd h,Fu h,dD]
def Bi(h:Int)(r:cE)(w:aB):(part 3 (aN h r).toArray 0).run prog w=.ok (.int .i64 h) w:=by
 have e:(aN h r)[0]? =some (.int .i64 h):=rfl
 simp[part,isAgg,lQ underlying3,e]
def A4(h:Int)(r:cE)(w:aB):(part 22 (aN h r).toArray 1).run prog w=.ok (aE (bC r)) w:=by
 rw[Vh w QT,ru,CJ]
def Ax{P:Program}{w:aB}{d:Nat}{c e:Array Value}{f:Field}{g:List Field}{a b:Value}{r s:Bool}(j:f.name≠ "_")(h:(part f.type c f.offset).run P w=.ok a w)(i:(part f.type e f.offset).run P w=.ok b w)(k:(Op.equalIn d f.type a b).run P w=.ok r w)(l:(Op.eqFields d c e g).run P w=.ok s w):
  (Op.eqFields d c e (f::g)).run P w=.ok (r&&s) w:=by
 rw[Op.eqFields,aG j];simp only[nc,h,i,k,nZ]
 cases r
 .rfl
 .exact l
def LR(a b:cE)(w:aB):Sem.run prog (Op.equalIn 9999 22 (aE (bC a)) (aE (bC b))) w=.ok (a==b) w:=tr w 9997 underlying22 underlying5 cellsByte a b
def Hr(a b:Int)(w:aB):Sem.run prog (Op.equalIn 9999 3 (.int .i64 a) (.int .i64 b)) w=.ok (a==b) w:=run_equalIn_int w 9998 _ _ _ a b underlying3
def iN(h:Int)(r:cE)(a:Int)(b:cE):Bool:=h==a&&r==b
def Tx(h:Int)(r:cE)(a:Int)(b:cE)(w:aB):(Op.eqFields 9999 (aN h r).toArray (aN a b).toArray (prog.fieldsOf 44).toList).run prog w=.ok (h==a&&(r==b&&true)) w:=by
 simp only[Program.fieldsOf,underlying44];refine Ax (aH rfl) (Bi h r w) (Bi a b w) (Hr _ _ w) ?_;exact Ax (aH rfl) (A4 h r w) (A4 a b w) (LR _ _ w) rfl
def Ul(h:Int)(r:cE)(a:Int)(b:cE)(w:aB):Sem.run prog (Op.equalIn 10000 44 (aE (aN h r)) (aE (aN a b))) w=(Op.eqFields 9999 (aN h r).toArray (aN a b).toArray (prog.fieldsOf 44).toList).run prog w:=run_equalIn_struct w 9999 44 _ _ (by kernel_rfl) (by kernel_rfl)
@[go_sem ↓ high] def afo (h:Int) (r:cE) (a:Int) (b:cE) (w:aB):Sem.run prog (Op.equalIn 10000 44 (aE (aN h r)) (aE (aN a b))) w=.ok (iN h r a b) w:=
 (Ul h r a b w).trans ((Tx h r a b w).trans (by rw[pW];rfl))
attribute [go_sem] PD U8 Zh XP Ri Xz Xd aaV cA bG NU Ga Jv vy CJ
def wX(i:Id):(ic i).length=71:=by
 unfold ic;rw[dN,bV,qv];simp[jK]
def EC{w:aT}(h:ix w=true):w.length=71/\w=60::(((w.drop 1).take 64)++jK)/\((w.drop 1).take 64).all fE=true:=by
 simp only[ix,fH,iK,lu]at h;obtain⟨⟨⟨b,d⟩,e⟩,c⟩:=h;refine⟨b,?_,e⟩
 cases w with
 |nil=>simp at b
 |cons a l=>
  have f:a=60:=d;rw[f,ib,gd];rw[ib]at c;rw[<-c,lq]
def xn{p:UInt8->Bool}:∀{s:aT},s.all p=true->s.takeWhile p=s
 |[],_=>rfl
 |c::s,h=>by
  simp only[nm,fH]at h;rw[r',aG h.1,xn h.2]
def ND(p:UInt8->Bool):∀s:aT,(s.takeWhile p).length<=s.length
 |[]=>aU _
 |c::s=>by
  rw[r'];split
  .have:=ND p s;simp;omega
  .simp
def C8{p:UInt8->Bool}:∀{s:aT},s.length<=(s.takeWhile p).length->s.all p=true
 |[],_=>rfl
 |c::s,h=>by
  rw[r']at h;split at h
  .rename_i a
   rw[nm,a,C8 (by simpa using h)];rfl
  .simp at h
def ada{s:aT}:(gZ s).2=0↔s.length=32/\s.all fE=true:=by
 unfold gZ;have c:=ND fE s;constructor
 .intro h
  by_cases h1:nV s<min s.length 32
  .rw[aG h1]at h;cases h
  .rw[aF h1]at h
   by_cases a:s.length<32
   .rw[aG a]at h;cases h
   .rw[aF a]at h
    by_cases b:32<s.length
    .rw[aG b]at h;cases h
    .exact⟨by omega,C8 (by unfold nV at h1;omega)⟩
 .rintro⟨h1,a⟩
  have:nV s=32:=by unfold nV;rw[xn a,h1]
  rw[aF (by omega),aF (by omega),aF (by omega)]
def lI(a:cE):aT:=dF a.toList
def Eo(a:cE):(lI a).length=32:=by unfold lI;rw[qv];simp
def eG(P:Program)(t:TypeId)(a:Array (Nat×Value))(w:aB):Result Next:=(do pure (Next.value (<-Instr.build t a)):Sem Next).run P w
@[go_sem ↓] def aeY {P:Program} {t:TypeId} (b:Operand->Value) (d:Option Tmp) (a:Array (Nat×Operand)) (e:TypeId) (p:String) (c:Array Edge) (g:Option (Nat×Bool)) (w:aB):
  Sem.run P (execOp b ⟨d,.build t a,e,p,c,g⟩) w=eG P t (a.map fun x=>(x.1,b x.2)) w:=rfl
def fe{P:Program}{t:TypeId}{a:Array (Nat×Value)}{v:Value}{w w':aB}(h:(Instr.build t a).run P w=.ok v w'):eG P t a w=.ok (.value v) w':=by simp[eG,h]
def uf{n:Nat}(x:Vector UInt8 n)(k:Nat):Value:=.int .u8 ((x.toList.getD k 0).toNat:Int)
def ly{n:Nat}(x:Vector UInt8 n):bC x=(List.range n).map (uf x):=by
 apply rD;intro i;rw[fo];by_cases hi:i<n
 .rw[qf hi,cO (by rw[a_];exact hi)]
  simp[bC,uf,hi]
 .rw[kZ (by rw[a_];omega),kZ (by simp;omega)];rfl
def bB:Value:=.slice none 0 0
def qN(k:Int)(f:Nat->Value)(g:aJ)(v:Int)(m:Bool)(s:Value)(t:aJ)(b:Int)(a:bF):bF:=
 [Value.int .i64 k]++((List.range 32).map f++([Value.string g,.int .i64 v,.bool m,s,.string t,.int .i64 b]++a))
def ack(w:aB):(Instr.build 26 #[]).run prog w=.ok (aE (bC bM)) w:=by kernel_rfl
def Vq(w:aB):(Instr.build 42 #[]).run prog w=.ok (aE (bC aQ)) w:=by kernel_rfl
def Ze(w:aB):(Instr.build 22 #[]).run prog w=.ok (aE (bC aQ)) w:=by kernel_rfl
def Rt(w:aB):(Instr.build 25 #[]).run prog w=.ok (aE (bC bM)) w:=by kernel_rfl
def WC(w:aB):(Instr.build 147 #[]).run prog w=.ok (aE (bC bM)) w:=by kernel_rfl
def XC(w:aB):(Instr.build 44 #[]).run prog w=.ok (aE (aN 0 aQ)) w:=by kernel_rfl
def WF(w:aB):(Instr.build 87 #[]).run prog w=.ok (aE (aL (aV 0) bB)) w:=by kernel_rfl
def Xu(k:Int)(w:aB):(Instr.build 87 #[(0,.int .i64 k)]).run prog w=.ok (aE (aL (aV k) bB)) w:=by kernel_rfl
def Qu(w:aB):(Instr.build 66 #[]).run prog w=.ok (aE (aL (aV 0) bB)) w:=by kernel_rfl
def Qx(k:Int)(w:aB):(Instr.build 66 #[(0,.int .i64 k)]).run prog w=.ok (aE (aL (aV k) bB)) w:=by kernel_rfl
def QX(h:Int)(f:Nat->Value)(w:aB):(Instr.build 44 #[(0,.int .i64 h),(1,aE ((List.range 16).map f))]).run prog w=.ok (aE (Value.int .i64 h::(List.range 16).map f)) w:=by kernel_rfl
def adn(k:Int)(f:Nat->Value)(w:aB):(Instr.build 87 #[(0,.int .i64 k),(1,aE ((List.range 32).map f))]).run prog w=.ok (aE (qN k f ⟨#[]⟩ 0 false bB ⟨#[]⟩ 0 (aN 0 aQ))) w:=by kernel_rfl
def abA(k:Int)(f:Nat->Value)(g:aJ)(v:Int)(m:Bool)(a:dB)(n c:Nat)(t:aJ)(d b:Int)(h:Nat->Value)(w:aB):
  (Instr.build 87 #[(0,.int .i64 k),(1,aE ((List.range 32).map f)),(2,.string g),(3,.int .i64 v),(4,.bool m),(5,.slice a n c),(6,.string t),(7,.int .i64 d),(8,aE (Value.int .i64 b::(List.range 16).map h))]).run prog w=
   .ok (aE (qN k f g v m (.slice a n c) t d (.int .i64 b::(List.range 16).map h))) w:=by kernel_rfl
def YH(k:Int)(f:Nat->Value)(g:aJ)(v:Int)(m:Bool)(a:dB)(n c:Nat)(t:aJ)(d b:Int)(h:Nat->Value)(w:aB):
  (Instr.build 66 #[(0,.int .i64 k),(1,aE ((List.range 32).map f)),(2,.string g),(3,.int .i64 v),(4,.bool m),(5,.slice a n c),(6,.string t),(7,.int .i64 d),(8,.int .i64 b),(9,aE ((List.range 16).map h))]).run prog w=
   .ok (aE (qN k f g v m (.slice a n c) t d (.int .i64 b::(List.range 16).map h))) w:=by kernel_rfl
def Vl(s:aJ)(n:Int)(w:aB):(Instr.build 328 #[(0,.string s),(2,.int .i64 n)]).run prog w=.ok (.agg #[.string s,.int .i64 0,.int .i64 n,.int .i64 0,.int .i64 0]) w:=by kernel_rfl
def N5(g t:aJ)(w:aB):(Instr.build 87 #[(0,.int .i64 3),(2,.string g),(3,.int .i64 2),(6,.string t)]).run prog w=.ok (aE (aL ⟨3,bM,g,2,false,[],t,0,0,aQ⟩ bB)) w:=by kernel_rfl
@[go_sem] def ahE (w:aB):eG prog 26 #[] w=.ok (.value (aE (bC bM))) w:=fe (ack w)
@[go_sem] def agH (w:aB):eG prog 42 #[] w=.ok (.value (aE (bC aQ))) w:=fe (Vq w)
@[go_sem] def af6 (w:aB):eG prog 22 #[] w=.ok (.value (aE (bC aQ))) w:=fe (Ze w)
@[go_sem] def afN (w:aB):eG prog 25 #[] w=.ok (.value (aE (bC bM))) w:=fe (Rt w)
@[go_sem] def afb (w:aB):eG prog 147 #[] w=.ok (.value (aE (bC bM))) w:=fe (WC w)
@[go_sem] def ag' (w:aB):eG prog 44 #[] w=.ok (.value (aE (aN 0 aQ))) w:=fe (XC w)
@[go_sem] def ahY (w:aB):eG prog 87 #[] w=.ok (.value (aE (aL (aV 0) bB))) w:=fe (WF w)
@[go_sem] def agc (k:Int) (w:aB):eG prog 87 #[(0,.int .i64 k)] w=.ok (.value (aE (aL (aV k) bB))) w:=fe (Xu k w)
@[go_sem] def k0C (w:aB):eG prog 66 #[] w=.ok (.value (aE (aL (aV 0) bB))) w:=fe (Qu w)
@[go_sem] def k1C (k:Int) (w:aB):eG prog 66 #[(0,.int .i64 k)] w=.ok (.value (aE (aL (aV k) bB))) w:=fe (Qx k w)
@[go_sem] def agm (h:Int) (r:cE) (w:aB):eG prog 44 #[(0,.int .i64 h),(1,aE (bC r))] w=.ok (.value (aE (aN h r))) w:=fe (by rw[aN,ly];exact QX h _ w)
@[go_sem] def aeE (k:Int) (i:Id) (w:aB):eG prog 87 #[(0,.int .i64 k),(1,aE (bC i))] w=.ok (.value (aE (aL { aV k with target:=i } bB))) w:=fe (by
 have e:aL { aV k with target:=i } bB=qN k (uf i) ⟨#[]⟩ 0 false bB ⟨#[]⟩ 0 (aN 0 aQ):=by unfold qN;rw[<-ly];rfl
 rw[e,ly];exact adn k _ w)
@[go_sem] def kCm (k:Int) (i:Id) (g:aJ) (v:Int) (m:Bool) (a:dB) (n c:Nat) (t:aJ) (d b:Int) (r:cE) (w:aB):
  eG prog 87 #[(0,.int .i64 k),(1,aE (bC i)),(2,.string g),(3,.int .i64 v),(4,.bool m),(5,.slice a n c),(6,.string t),(7,.int .i64 d),(8,aE (aN b r))] w=.ok (.value (aE (aL ⟨k,i,g,v,m,[],t,d,b,r⟩ (.slice a n c)))) w:=fe (by
 have e:aL ⟨k,i,g,v,m,[],t,d,b,r⟩ (.slice a n c)=qN k (uf i) g v m (.slice a n c) t d (.int .i64 b::(List.range 16).map (uf r)):=by unfold qN;rw[<-ly,<-ly];rfl
 rw[e,aN,ly,ly];exact abA k _ g v m a n c t d b _ w)
@[go_sem] def kC (k:Int) (i:Id) (g:aJ) (v:Int) (m:Bool) (a:dB) (n c:Nat) (t:aJ) (d b:Int) (r:cE) (w:aB):
  eG prog 66 #[(0,.int .i64 k),(1,aE (bC i)),(2,.string g),(3,.int .i64 v),(4,.bool m),(5,.slice a n c),(6,.string t),(7,.int .i64 d),(8,.int .i64 b),(9,aE (bC r))] w=.ok (.value (aE (aL ⟨k,i,g,v,m,[],t,d,b,r⟩ (.slice a n c)))) w:=fe (by
 have e:aL ⟨k,i,g,v,m,[],t,d,b,r⟩ (.slice a n c)=qN k (uf i) g v m (.slice a n c) t d (.int .i64 b::(List.range 16).map (uf r)):=by unfold qN;rw[<-ly,<-ly];rfl
 rw[e,ly,ly];exact YH k _ g v m a n c t d b _ w)
@[go_sem] def aeG (s:aJ) (n:Int) (w:aB):eG prog 328 #[(0,.string s),(2,.int .i64 n)] w=.ok (.value (.agg #[.string s,.int .i64 0,.int .i64 n,.int .i64 0,.int .i64 0])) w:=fe (Vl s n w)
@[go_sem] def afd (g t:aJ) (w:aB):eG prog 87 #[(0,.int .i64 3),(2,.string g),(3,.int .i64 2),(6,.string t)] w=.ok (.value (aE (aL ⟨3,bM,g,2,false,[],t,0,0,aQ⟩ bB))) w:=fe (N5 g t w)
def ej{P:Program}{id:Nat}{Q:Exit->Act->aB->Prop}{a:Act}{w:aB}{l:List Oper}(d:P.follows .mixedOrders=true)(c:Region.lexB .any l.toArray=true)
  (h:wpQuiet P l.toArray (fun u=>∃p:GD,u=gw w p) (fun b=>∀w',(∃p:GD,w'=gw w p)->Q .normal b w') l a):(Code.region id l.toArray true).wp P Q a w:=
 wp_region_quiet (C:=fun u=>∃p:GD,u=gw w p) d c (nM w) (by simpa using h)
def nE(k:Int):ByteArray:=bs (CF k)
def aea(k:Int)(w:aB):Calls prog 251 #[.int .i64 k] w fun e w'=>e=.returned (.string (nE k))/\w=w':=by
 go_in;go_wp2;all_goals
  go_ret;refine⟨?_,rfl⟩
  simp_all[nE,CF,bs]
def UM(k:Int)(w:aB):Calls prog 37 #[.int .i64 k] w (RG w (.string (nE k))):=by
 by_cases h:1<=k/\k<=5
 .have a:k=1\/k=2\/k=3\/k=4\/k=5:=by omega
  rcases a with rfl|rfl|rfl|rfl|rfl
  all_goals
   go_in;go_wp2;go_ret;exact⟨rfl,(Gr.refl w).alloc _⟩
 .have a:Hid (nE k=⟨#[]⟩):=by
   show _=_;unfold nE CF;rw[aF (by omega),aF (by omega),aF (by omega),aF (by omega),aF (by omega)];rfl
  go_in;go_wp2;all_goals
   first
    |(exfalso;omega)
    |(go_ret;exact⟨by rw[a.out];rfl,Gr.refl w⟩)
def wY(h:Int)(w:aB):Calls prog 57 #[.int .i64 h] w fun e w'=>e=.returned (.int .i64 (cH h))/\w=w':=by
 go_in;go_wp2;all_goals
  go_ret;refine⟨eJ ?_,rfl⟩;unfold cH;split<;>first|rfl|omega
def xi(i:Id)(w:aB):Calls prog 167 #[aE (bC i)] w (RG w (.bool (i==bM))):=by
 go_in;go_wp2;go_ret;exact⟨rfl,(Gr.refl w).alloc _⟩
def pf(h:Int)(r:cE)(w:aB):Calls prog 30 #[aE (aN h r)] w (RG w (.int .i64 (cH h))):=by
 go_in;go_wp2_with (go_at_call 57;refine dK (wY _ _) ?_);go_ret;exact⟨rfl,(Gr.refl w).alloc _⟩
def iX{W:aB}{b:Nat}{c:Cm}{v:Value}{t:TypeId}(h:HB W b (aL c v) t):
  W.cell? (aD b 0)=some (.int .i64 c.kind)/\W.cell? (aD b 33)=some (.string c.group)/\W.cell? (aD b 34)=some (.int .i64 c.version)/\W.cell? (aD b 35)=some (.bool c.moderated)/\W.cell? (aD b 36)=some v/\
  W.cell? (aD b 37)=some (.string c.text)/\W.cell? (aD b 38)=some (.int .i64 c.number)/\W.cell? (aD b 39)=some (.int .i64 c.height)/\hasRow W (aD b 1) 32=true/\rowAt W (aD b 1) 32=bC c.target/\hasRow W (aD b 39) 17=true/\rowAt W (aD b 39) 17=aN c.height c.root/\
  hasRow W (aD b 40) 16=true/\rowAt W (aD b 40) 16=bC c.root/\hasRow W (aD b 0) 56=true/\rowAt W (aD b 0) 56=aL c v/\b<W.heap.size:=
 ⟨(bH h 0).trans (I_ c v),(bH h 33).trans (Gt c v),(bH h 34).trans (IH c v),(bH h 35).trans (Nt c v),(bH h 36).trans (JN c v),(bH h 37).trans (Ij c v),(bH h 38).trans (Gl c v),(bH h 39).trans (Gk c v),
  aP h 1 32 (by rw[cA];decide),(bJ h 1 32 (by rw[cA];decide)).trans (NU c v),aP h 39 17 (by rw[cA];decide),(bJ h 39 17 (by rw[cA];decide)).trans (Ga c v),
  aP h 40 16 (by rw[cA];decide),(bJ h 40 16 (by rw[cA];decide)).trans (Jv c v),aP h 0 56 (by rw[cA];decide),(bJ h 0 56 (by rw[cA];decide)).trans (vy c v),(bY.1 h).1⟩
def Ia:∀(l:List cE) (a b:cE),eP (l++[a,b])=(eP (l++[a])&&decide (Lib.compareBytes a.toList b.toList<0))
 |[],a,b=>by simp[eP]
 |[x],a,b=>by simp[eP]
 |x::y::l,a,b=>by
  have:=Ia (y::l) a b;simp only[mB]at this|-
  rw[eP,this,eP,Bool.and_assoc]
def IF:∀(a b:List cE),eP (a++b)=true->eP a=true
 |[],_,_=>rfl
 |[_],_,_=>rfl
 |x::y::a,b,h=>by
  simp only[mB,eP,fH]at h|-
  exact⟨h.1,IF (y::a) b h.2⟩
def QI(l:List cE)(k:Nat)(c:1<=k)(d:k<l.length):eP (l.take (k+1))=(eP (l.take k)&&decide (Lib.compareBytes l[k-1].toList l[k].toList<0)):=by
 obtain⟨j,rfl⟩:=Nat.exists_eq_add_of_le' c;have b:l.take (j+1+1)=l.take j++[l[j],l[j+1]]:=by
  rw[eF d,eF (by omega:j<l.length),fl];rfl
 have a:l.take (j+1)=l.take j++[l[j]]:=eF (by omega);rw[b,a,Ia];rfl
def RX(l:List cE)(k:Nat)(h:eP (l.take k)=false):eP l=false:=by
 cases hl:eP l with
 |false=>rfl
 |true=>rw[<-lq k l]at hl;rw[IF _ _ hl]at h;cases h
def Gi{w:aB}{b k:Nat}{n:Nat}{x:Vector UInt8 n}(d:hasRow w (aD b k) n=true)(f:rowAt w (aD b k) n=bC x):nU w b k x.toList:=by
 intro j g;have a:j<n:=by simpa using g
 have e:=ei (fun l=>l[j]?) f
 simp only[rowAt,fo,qf a,jm,fO]at e;obtain⟨v,c⟩:=xG.1 (kr.1 d j a);rw[fO]at c;rw[c]at e|-
 simp only[nj]at e;rw[e];simp[bC,a]
def XV(l:List cE)(v:Value)(w:aB)(M:eR w v l)(P:l.length<=1000000):
  Calls prog 282 #[v] w (RG w (.bool (eP l))):=by
 obtain⟨a,H,rfl,I,D⟩:=M;have z:(l.map bC).length=l.length:=by simp
 rw[z]at I|-
 have t:=aA D;go_in;go_wp2_with fail
 go_loopw [3] (fun i wr=>∃k:Nat,k<=l.length/\i=.int .i64 ((k:Int)+1)/\Hid (eP (l.take (k+1))=true)/\∃q,wr=w.drewN q) (fun i _=>l.length+1-(intOf i).toNat)
 .exact⟨0,bW _,rfl,by cases l<;>rfl,0,rfl⟩
 .
  obtain⟨k,O,rfl,C,q,rfl⟩:=hrel;by_cases d:k+1<l.length
  .have f:k<l.length:=by omega
   obtain⟨y,E,m,S,F,p⟩:=t.out k (by simpa using f);obtain⟨N,R,c,T,G,s⟩:=t.out (k+1) (by simpa using d);subst m;injection c with c;injection c with q1 q2;subst q1;subst q2;rw[ig]at p s;have g:Hid (eP (l.take (k+1+1))=(eP (l.take (k+1))&&decide (Lib.compareBytes l[k].toList l[k+1].toList<0))):=QI l (k+1) (by omega) d;have b:Hid (eP (l.take (k+1+1))=false->eP l=false):=RX l (k+1+1);have h:=aA (fun n=>Cj y (E+k*16) 16 y (E+(k+1)*16) 16 l[k].toList l[k+1].toList ((w.drewN q).drewN n) (Gi (x:=l[k]) F p) (Gi (x:=l[k+1]) G s));simp only[Dx]at h;have o:(k:Int)+1<(l.length:Int):=by omega
   have J:(0:Int)<=(k:Int)+1:=by omega
   have K:(k:Int)<(l.length:Int):=by omega
   have L:=nn k
   have Q:IntKind.i64.wrap (k:Int)=(k:Int):=by rw[cV];omega
   generalize B:w.drewN q=U at*
   have u:=aA B
   cases hx:decide (0<=Lib.compareBytes l[k].toList l[k+1].toList)with
   |true=>
    have j:Hid (eP l=false):=b (by rw[g.out];simp at hx;simp;omega);generalize Lib.compareBytes l[k].toList l[k+1].toList=r at*
    go_wp2_with fail
    go_quiet ((go_at_call 213;exact tO (h _)))
    go_wp2_with fail;go_ret;exact⟨eU j.symm,by rw[<-u.out];exact((Gr.refl w).drewN _).drewN _⟩
   |false=>
    have j:=aA (show eP (l.take (k+1+1))=true by rw[g.out,C.out];simp at hx;simp;omega)
    generalize Lib.compareBytes l[k].toList l[k+1].toList=r at*
    go_wp2_with fail
    go_quiet ((go_at_call 213;exact tO (h _)))
    go_wp2_with fail;go_roundw
    .exact⟨k+1,by omega,by go_num,j,_,by rw[<-u.out,Li]⟩
    .simp[intOf];omega
  .have o:¬(k:Int)+1<(l.length:Int):=by omega
   go_wp2_with fail;go_ret;refine⟨eU ?_,(Gr.refl w).drewN _⟩;have:=C.out;rw[eq (by omega)]at this;exact this.symm
def ns(s:aT):Bool:=s.any fun c=>decide (c<32)||decide (126<c)
def W_(s:aJ)(k:Nat)(h:k<s.size):ns ((bl s).take (k+1))=(ns ((bl s).take k)||(decide ((s[k].toNat:Int)<32)||decide (126<(s[k].toNat:Int)))):=by
 have a:k<(bl s).length:=by rw[bN];exact h
 have e:(bl s)[k]=s[k]:=rfl;unfold ns;rw[eF a,wy,e];congr 1;rw[kE];simp[q9];omega
def TT(s:aT)(k:Nat)(h:ns (s.take k)=true):ns s=true:=by
 unfold ns at*
 rw[mD]at*
 obtain⟨c,a,b⟩:=h;exact⟨c,List.mem_of_mem_take a,b⟩
def Qi(s:aT):Lib.hasPrefix s [32]=true↔s.head? =some 32:=by
 cases s with
 |nil=>exact⟨fun h=>(by cases h),fun h=>(by cases h)⟩
 |cons c s=>
  show(([32]:aT).isPrefixOf (c::s))=true↔some c=some 32;rw[List.isPrefixOf,List.isPrefixOf,pW,lu,qE];exact eq_comm
def V8(s:aT):Lib.hasSuffix s [32]=true↔s.getLast? =some 32:=by
 unfold Lib.hasSuffix;rw[List.isSuffixOf_iff_suffix];constructor
 .rintro⟨t,rfl⟩;exact LI
 .intro h
  rcases uI s with rfl|⟨t,c,rfl⟩
  .simp at h
  .rw[wt]at*
   rw[LI]at h;rw[iP h];exact⟨t,rfl⟩
def Ua(s:aJ)(w:aB)(z:s.size<=9223372036854775807):Calls prog 283 #[.string s] w fun e w'=>e=.returned (.int .i64 (kY (bl s)))/\w=w':=by
 have b:=bN s;by_cases v:200<s.size
 .have f:=aA (show kY (bl s)=5 by unfold kY;rw[b,aG v])
  go_in;go_wp2_with fail;go_ret;exact⟨eJ f.symm,rfl⟩
 .have f:=aA (show kY (bl s)=if ns (bl s)=true then 6 else if(bl s).head? =some 32\/(bl s).getLast? =some 32 then 3 else 0 by unfold kY;rw[b,aF v];rfl)
  have l:=aA b;have g:=aA (Tryz.strings_HasPrefix s ⟨#[32]⟩ w);have m:=aA (Tryz.strings_HasSuffix s ⟨#[32]⟩ w z);have t:Hid (Lib.hasPrefix s.data.toList [32]=true↔(bl s).head? =some 32):=Qi _;have u:Hid (Lib.hasSuffix s.data.toList [32]=true↔(bl s).getLast? =some 32):=V8 _;have n:(⟨#[32]⟩:aJ).data.toList=[32]:=rfl;rw[n]at g m;clear b n;go_in;go_wp2_with fail
  go_loop [3,9,10,11,12,13,14,15,16,17,18,19,20,21,22] (fun _ i _ _ _ _ _ _ _ _ _ _ _ _ _=>∃k:Nat,k<=s.size/\i=.int .i64 k/\Hid (ns ((bl s).take k)=false)) (fun _ i _ _ _ _ _ _ _ _ _ _ _ _ _=>s.size-(intOf i).toNat)
  .exact⟨0,bW _,rfl,rfl⟩
  .
   obtain⟨k,C,rfl,x⟩:=hrel;by_cases r:k<s.size
   .have p:=aA (W_ s k r)
    have j:Hid (ns ((bl s).take (k+1))=true->ns (bl s)=true):=TT _ _;have q:(k:Int)<(s.size:Int):=by omega
    have y:=nn k
    generalize B:(s[k].toNat:Int)=c at*
    cases hx:decide (c<32)with
    |true=>
     have a:Hid (ns (bl s)=true):=j (by rw[p.out,hx];simp);go_wp2_with fail;go_ret;exact⟨eJ (by rw[f.out,aG a.out]),rfl⟩
    |false=>
     cases hy:decide (126<c)with
     |true=>
      have a:Hid (ns (bl s)=true):=j (by rw[p.out,hy];simp);go_wp2_with fail;go_ret;exact⟨eJ (by rw[f.out,aG a.out]),rfl⟩
     |false=>
      have a:=aA (show ns ((bl s).take (k+1))=false by rw[p.out,hx,hy,x.out];rfl)
      go_wp2_with fail
      go_round
      .exact⟨k+1,by omega,by go_num,a⟩
      .simp[intOf];omega
   .have q:¬(k:Int)<(s.size:Int):=by omega
    have a:Hid (ns (bl s)=false):=by
     have:=x.out;rw[eq (by rw[l.out];omega)]at this;exact this
    clear l
    cases hp:Lib.hasPrefix s.data.toList [32]with
    |true=>
     rw[hp]at g;have o:Hid ((bl s).head? =some 32):=t.1 hp;go_wp2_with (go_at_call 219;refine g.mono ?_;rintro e w' ⟨rfl,rfl⟩);go_ret;exact⟨eJ (by rw[f.out,a.out,aF (aH rfl),aG (.inl o.out)]),rfl⟩
    |false=>
     rw[hp]at g;have o:Hid (¬(bl s).head? =some 32):=fun h=>by have:=t.2 h;rw[hp]at this;cases this
     cases hq:Lib.hasSuffix s.data.toList [32]with
     |true=>
      rw[hq]at m;have d:Hid ((bl s).getLast? =some 32):=u.1 hq;go_wp2_with (first|(go_at_call 219;refine g.mono ?_;rintro e w' ⟨rfl,rfl⟩)|(go_at_call 220;refine m.mono ?_;rintro e w' ⟨rfl,rfl⟩));go_ret;exact⟨eJ (by rw[f.out,a.out,aF (aH rfl),aG (.inr d.out)]),rfl⟩
     |false=>
      rw[hq]at m;have d:Hid (¬(bl s).getLast? =some 32):=fun h=>by have:=u.2 h;rw[hq]at this;cases this
      go_wp2_with (first|(go_at_call 219;refine g.mono ?_;rintro e w' ⟨rfl,rfl⟩)|(go_at_call 220;refine m.mono ?_;rintro e w' ⟨rfl,rfl⟩));go_ret;exact⟨eJ (by rw[f.out,a.out,aF (aH rfl),aF (by rintro(h|h);exact o.out h;exact d.out h)]),rfl⟩
section
theorem qO(w:aB)(t:TypeId)(b:Nat)(f:b=w.heap.size)(c:bF):∀(l a mid:bF),mid.length=l.length->
  (w.alloc (aC (a++(mid++c)) t)).setCells b a.length l=w.alloc (aC (a++(l++c)) t)
 |[],a,mid,h=>by obtain rfl:mid=[]:=fQ.1 h;rfl
 |v::l,a,mid,h=>by
  obtain⟨p,d,rfl⟩:∃p q,mid=p::q:=by cases mid with|nil=>simp at h|cons p q=>exact⟨p,q,rfl⟩
  show(World.setCells ((w.alloc _).setCell (aD b (a.length)) v) b (a.length+1) l)=_;rw[Lj _ _ _ _ _ f];have e:(a++(p::d++c)).toArray.setIfInBounds a.length v=((a++[v])++(d++c)).toArray:=by simp
  rw[e];have:=qO w t b f c l (a++[v]) d (by simpa using h);simp only[bV,dN,iJ,fB,fl,mB,mZ]at this|-
  exact this
section
variable (w:World) (t:TypeId) (b:Nat) (c:Cm) (v:Value)
@[go_sem ↓ high] theorem af9 (i:Id) (a:b=w.heap.size):(w.alloc (aC (aL c v) t)).setCells b 1 (bC i)=w.alloc (aC (aL { c with target:=i } v) t):=
 qO w t b a ([Value.string c.group,.int .i64 c.version,.bool c.moderated,v,.string c.text,.int .i64 c.number]++aN c.height c.root) (bC i) [.int .i64 c.kind] (bC c.target) (by rw[a_,a_])
theorem AY:aL c v=([.int .i64 c.kind]++(bC c.target++[Value.string c.group,.int .i64 c.version,.bool c.moderated,v,.string c.text,.int .i64 c.number]))++(aN c.height c.root++[]):=by simp[aL]
@[go_sem ↓ high] theorem ag9 (h:Int) (r:cE) (a:b=w.heap.size):(w.alloc (aC (aL c v) t)).setCells b 39 (aN h r)=w.alloc (aC (aL { c with height:=h,root:=r } v) t):=by
 have e:=qO w t b a [] (aN h r) ([.int .i64 c.kind]++(bC c.target++[Value.string c.group,.int .i64 c.version,.bool c.moderated,v,.string c.text,.int .i64 c.number])) (aN c.height c.root) (by rw[bG,bG]);rw[show([Value.int .i64 c.kind]++(bC c.target++[Value.string c.group,.int .i64 c.version,.bool c.moderated,v,.string c.text,.int .i64 c.number])).length=39 by simp[a_]]at e;rw[AY c v,AY { c with height:=h,root:=r } v];exact e
theorem lv(k:Nat)(x:Value)(h:33<=k):(aL c v).set k x=[.int .i64 c.kind]++(bC c.target++(([Value.string c.group,.int .i64 c.version,.bool c.moderated,v,.string c.text,.int .i64 c.number]++aN c.height c.root).set (k-33) x)):=by
 unfold aL;rw[pu _ _ (by simp;omega),pu _ _ (by rw[a_];simp;omega),a_];rw[show k-[Value.int .i64 c.kind].length-32=k-33 by simp;omega]
theorem tf(k:Nat)(x:Value)(a:Cm)(d:Value)(e:b=w.heap.size)(h:(aL c v).set k x=aL a d):(w.alloc (aC (aL c v) t)).setCell (aD b k) x=w.alloc (aC (aL a d) t):=by
 rw[Lj _ _ _ _ _ e,<-h];simp
@[go_sem ↓ high] theorem ae_ (g:aJ) (a:b=w.heap.size):(w.alloc (aC (aL c v) t)).setCell (aD b 33) (.string g)=w.alloc (aC (aL { c with group:=g } v) t):=tf w t b c v 33 _ _ _ a (by rw[lv _ _ _ _ (aH rfl)];rfl)
@[go_sem ↓ high] theorem aep (n:Int) (a:b=w.heap.size):(w.alloc (aC (aL c v) t)).setCell (aD b 34) (.int .i64 n)=w.alloc (aC (aL { c with version:=n } v) t):=tf w t b c v 34 _ _ _ a (by rw[lv _ _ _ _ (aH rfl)];rfl)
@[go_sem ↓ high] theorem agT (m:Bool) (a:b=w.heap.size):(w.alloc (aC (aL c v) t)).setCell (aD b 35) (.bool m)=w.alloc (aC (aL { c with moderated:=m } v) t):=tf w t b c v 35 _ _ _ a (by rw[lv _ _ _ _ (aH rfl)];rfl)
@[go_sem ↓ high] theorem ae2 (a:dB) (n p:Nat) (d:b=w.heap.size):(w.alloc (aC (aL c v) t)).setCell (aD b 36) (.slice a n p)=w.alloc (aC (aL c (.slice a n p)) t):=tf w t b c v 36 _ _ _ d (by rw[lv _ _ _ _ (aH rfl)];rfl)
@[go_sem ↓ high] theorem aeN (g:aJ) (a:b=w.heap.size):(w.alloc (aC (aL c v) t)).setCell (aD b 37) (.string g)=w.alloc (aC (aL { c with text:=g } v) t):=tf w t b c v 37 _ _ _ a (by rw[lv _ _ _ _ (aH rfl)];rfl)
@[go_sem ↓ high] theorem aeM (n:Int) (a:b=w.heap.size):(w.alloc (aC (aL c v) t)).setCell (aD b 38) (.int .i64 n)=w.alloc (aC (aL { c with number:=n } v) t):=tf w t b c v 38 _ _ _ a (by rw[lv _ _ _ _ (aH rfl)];rfl)
end
@[go_sem ↓ high] theorem ahC (w:aB):Sem.run prog (zeroValue 87) w=.ok (aE (aL (aV 0) bB)) w:=by kernel_rfl
@[go_sem] theorem IV (c:Cm):cN (aL c bB)=true:=DI c bB rfl
@[go_sem] theorem J6 (c:Cm) (a:dB) (n k:Nat):cN (aL c (.slice a n k))=true:=DI c _ rfl
theorem jU(w:aB):eR w bB []:=⟨none,0,rfl,aU _,fun j a=>by simp at a⟩
end
section
section
variable (k:Int) (t:Id) (g:ByteArray) (n:Int) (m:Bool) (l:List cE) (tx:ByteArray) (nu ht:Int) (r:cE)
end
end
section
section
variable (t:Id) (g:ByteArray) (n:Int) (m:Bool) (l:List cE) (tx:ByteArray) (nu ht:Int) (r:cE)
end
end
def rJ(l:bP):List bF:=l.map fun s=>[Value.string s]
def Jp(l:bP):(rJ l).flatten=l.map Value.string:=by
 induction l with
 |nil=>rfl
 |cons s l a=>unfold rJ at*;rw[gt,yw,a];rfl
def LG(l:bP):∀r∈rJ l,r.length=1:=by
 intro r a;obtain⟨s,_,rfl⟩:=iQ.1 a;rfl
def Ql(l:bP):∀r∈rJ l,cN r=true:=by
 intro r a;obtain⟨s,_,rfl⟩:=iQ.1 a;rfl
def Bq(l:bP):(rJ l).length=l.length:=by unfold rJ;simp
def fs(w:aB)(base:Nat)(v:Value)(l:bP):Prop:=w.ownsRow base 9 1 v l.length (l.map Value.string)
def fs.nil(w:aB)(base:Nat):fs w base (.slice none 0 0) []:=⟨rfl,.inl ⟨rfl,rfl⟩⟩
def fs.made{w:aB}{base b:Nat}{l:bP}(h:HB w b (l.map Value.string) 9) (a:base<=b) (c:l.length<=1000000):fs w base (aR b 0 l.length l.length) l:=
 ⟨by simp,.inr ⟨b,l.length,_,rfl,a,h,aU _,by unfold maxLen;omega,by simp,by rw[ld,wN,eq (by simp)]⟩⟩
def fs.gr{w w':aB}{base:Nat}{v:Value}{l:bP}(h:fs w base v l)(a:Gr w w'):fs w' base v l:=mM h a.grownBy (by cases v.ownBlock<;>simp)
def fs.sl{w:aB}{base:Nat}{v:Value}{l:bP}(h:fs w base v l):bX w v 1 (rJ l):=
 rf (LG l) (by rw[Bq,Jp];exact h)
def QM:(prog.info? 9).map (fun i=>(i.zero,i.size,i.bytes))=some (some (.string ⟨#[]⟩),1,16):=by kernel_rfl
def Vy:∃i z,prog.info? 9 =some i/\i.zero=some z/\i.size=1/\i.bytes=16/\z.cells.size=1:=by
 have h:=QM
 cases hi:prog.info? 9 with
 |none=>rw[hi]at h;cases h
 |some i=>
  rw[hi]at h;simp only[jm,qE,rk]at h;exact⟨i,.string ⟨#[]⟩,rfl,h.1,h.2.1,h.2.2,rfl⟩
def yN(w:aB){c:Array Oper}{rest:List Oper}{o:Oper}{a:Act}{Q:Exit->Act->aB->Prop}(g:o.guard=none)(s x:Operand)
  (p:o.op=.call { callee:=.builtin .append,args:=#[s,x],argTypes:=#[23,23] }) (base:Nat) (v:Value) (xs:bP) (hs:a.eval s=v) (hown:fs w base v xs)
  (sv:Value) (ys:bP) (hx:a.eval x=sv) (hsl:fs w base sv ys) (h63:xs.length+ys.length<=1000000) (hbase:base<=w.heap.size)
  (h:∀d f w',fs w' base (.slice d (xs++ys).length f) (xs++ys)->w.grownBy w' v.ownBlock->wpList prog c Q rest (a.put o.dst (.slice d (xs++ys).length f)) w'):
  wpList prog c Q (o::rest) a w:=by
 obtain⟨i,z,j,k,l,m,n⟩:=Vy;refine tU w g s x 23 p base 9 i z 1 16 underlying23 j k l m n (aH rfl) v xs.length (xs.map Value.string) hs hown sv (rJ ys) hx hsl.sl (LG _) (Ql _) (by rw[Bq];exact h63) (aH rfl) hbase ?_;intro d f w' b hg _;rw[Jp,Bq]at b;rw[Bq];have e:xs.length+ys.length=(xs++ys).length:=by simp
 rw[e];refine h d f w' ?_ hg;unfold fs;rw[gD,<-e];exact b
def fs.cells{w:aB}{base:Nat}{v:Value}{l:bP}(h:fs w base v l)(n:l≠[]):∃g c,v=aR g 0 l.length c/\l.length<=c/\g<w.heap.size/\∀(j:Nat) x,l[j]? =some x->w.cell? (aD g (0+j))=some (.string x):=by
 obtain⟨_,k⟩:=h;rcases k with⟨_,i⟩|⟨g,a,f,p,q,d,m,r,s,o⟩
 .exact absurd (fQ.1 i) n
 .refine⟨g,a,p,m,(bY.1 d).1,fun j x e=>?_⟩
  rw[fB,oW _ _ _ _ _ _ d];have b:=(nG.1 e).1;have:=ei (fun l=>l[j]?) o
  simp only[mi,ld,aG b,fo,e,jm]at this;rw[<-this,tv]
def fs.join{w:aB}{base:Nat}{v:Value}{l:bP}(h:fs w base v l)(b:aJ)(f:(Lib.join (l.map bl) (bl b)).length<=140737488355328)(r:l.length<=1000000):
  Calls prog 163 #[v,.string b] w (RG w (.string (bs (Lib.join (l.map bl) (bl b))))):=by
 by_cases i:l=[]
 .subst i
  obtain⟨_,m⟩:=h;obtain⟨a,c,rfl⟩:∃a c,v=.slice a 0 c:=by
   rcases m with⟨rfl,_⟩|⟨g,j,k,rfl,_⟩
   .exact⟨_,_,rfl⟩
   .exact⟨_,_,rfl⟩
  refine(Tryz.strings_Join_none a c b w).mono ?_;rintro e w' ⟨rfl,rfl⟩;exact⟨rfl,Gr.refl _⟩
 .obtain⟨g,c,rfl,o,q,d⟩:=h.cells i
  exact(Tryz.strings_Join g 0 c l b w d q (by omega) o f).mono fun _ _ ⟨p,n⟩=>⟨p,n⟩
end Go.Proofs.YtjfaogajmoffoaaGreatDoor
