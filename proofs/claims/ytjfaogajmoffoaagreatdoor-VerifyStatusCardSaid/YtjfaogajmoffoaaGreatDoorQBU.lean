/- Lemmas for VerifyStatus. -/
import Derived.Test.YtjfaogajmoffoaaGreatDoorQBA
import Derived.RangeFuncNested
import Derived.RangeFuncBound
import Derived.Shelf.RegionOpen
import Derived.OwnWalkIn
import Derived.LoopNIn
import Derived.LoopIn
set_option maxRecDepth 100000
set_option maxHeartbeats 16000000
set_option linter.all false
namespace Go.Proofs.YtjfaogajmoffoaaGreatDoor
open Go.RowKit Tryz
def dC(c:Int):Int:=if c<=127 then 1 else if c<194 then 0 else if c<=223 then 2 else if c<=239 then 3 else if c<=244 then 4 else 0
def iR(f i c:Int):Bool:=
 decide ((if i=1 then(if f=224 then 160 else if f=240 then 144 else 128)else 128)<=c)&&decide (c<=(if i=1 then(if f=237 then 159 else if f=244 then 143 else 191)else 191))
def bz(c:UInt8):Int:=(c.toNat:Int)
def mJ(c:UInt8):0<=bz c:=by unfold bz;omega
def mQ(c:UInt8):bz c<=255:=by unfold bz;have:=c.toNat_lt;omega
def ii(f size:Int):Nat->aM->Nat
 |i,[]=>i
 |i,c::t=>if(decide ((i:Int)<size)&&iR f i (bz c))=true then ii f size (i+1) t else i
def ey:aM->Nat
 |[]=>0
 |a::t=>if dC (bz a)=0 then 0 else ii (bz a) (dC (bz a)) 1 t
def jc:aM->Bool
 |[]=>false
 |a::t=>if dC (bz a)=0 then false else decide ((ii (bz a) (dC (bz a)) 1 t:Int)=dC (bz a))
def lc(r:Int)(l:aM):Int:=l.foldl (fun r c=>64*r+bz c%64) r
def val:aM->Int
 |[]=>0
 |[a]=>bz a
 |a::b::t=>lc (bz a%(if t.length=0 then 32 else if t.length=1 then 16 else 8)) (b::t)
def ky(l:aM):Int:=if jc l then val (l.take (ey l))else 0
def eo(l:aM):Nat:=if jc l then ey l else 0
def eK(l:aM):Int:=if l=[]then 1 else if jc l then 0 else if ey l=0 then 6 else if ey l=l.length then 23 else 3
def fR(c:Int):Int:=if c<128 then 1 else if c<192 then 0 else if c<224 then 2 else if c<240 then 3 else if c<248 then 4 else 0
def ip(c:Int):Int:=if c<128 then c else if c<192 then 0 else if c<224 then c-192 else if c<240 then c-224 else if c<248 then c-240 else 0
def qX(n:Int):Int:=if n=2 then 128 else if n=3 then 2048 else if n=4 then 65536 else 0
def rC(n:Int):Int:=if n=1 then 127 else if n=2 then 2047 else if n=3 then 65535 else if n=4 then 1114111 else 0
def lU(l:aM):Bool:=l.all fun c=>decide (128<=bz c)&&decide (bz c<=191)
def ki(v:Int)(l:aM):Int:=l.foldl (fun v c=>64*v+bz c-128) v
def pN:Nat->Int->Int
 |0,v=>v
 |k+1,v=>pN k (64*v)
def pZ:Nat->Int->Int
 |0,v=>v
 |k+1,v=>pZ k (64*v+63)
def py(n b a:Int):Bool:=
 !((decide (55296<=max b (qX n))&&decide (min a (rC n)<=57343))||decide (min a (rC n)<max b (qX n)))
def fg:aM->Bool
 |[]=>false
 |a::t=>if fR (bz a)=0\/fR (bz a)<((a::t).length:Int)then false else
   if lU t then py (fR (bz a)) (pN (fR (bz a)-((a::t).length:Int)).toNat (ki (ip (bz a)) t)) (pZ (fR (bz a)-((a::t).length:Int)).toNat (ki (ip (bz a)) t))else false
def gG(l:aM):Int:=if fg l then(match l with|[]=>0|a::_=>fR (bz a))else 0
def iw(l:aM):Int:=if fg l then(match l with|[]=>0|a::t=>ki (ip (bz a)) t)else 0
def qb(x:Int)(e:0<=x)(f:x<=255):
  (x<=127/\fR x=1/\ip x=x/\dC x=1)\/(128<=x/\x<=191/\fR x=0/\ip x=0/\dC x=0)\/(192<=x/\x<=193/\fR x=2/\ip x=x-192/\dC x=0)\/
  (194<=x/\x<=223/\fR x=2/\ip x=x-192/\dC x=2)\/(224<=x/\x<=239/\fR x=3/\ip x=x-224/\dC x=3)\/(240<=x/\x<=244/\fR x=4/\ip x=x-240/\dC x=4)\/
  (245<=x/\x<=247/\fR x=4/\ip x=x-240/\dC x=0)\/(248<=x/\fR x=0/\ip x=0/\dC x=0):=by
 have a:x<=127\/(128<=x/\x<=191)\/(192<=x/\x<=193)\/(194<=x/\x<=223)\/(224<=x/\x<=239)\/(240<=x/\x<=244)\/(245<=x/\x<=247)\/248<=x:=by omega
 have b:fR x=if x<128 then 1 else if x<192 then 0 else if x<224 then 2 else if x<240 then 3 else if x<248 then 4 else 0:=rfl
 have c:ip x=if x<128 then x else if x<192 then 0 else if x<224 then x-192 else if x<240 then x-224 else if x<248 then x-240 else 0:=rfl
 have d:dC x=if x<=127 then 1 else if x<194 then 0 else if x<=223 then 2 else if x<=239 then 3 else if x<=244 then 4 else 0:=rfl
 rcases a with h|h|h|h|h|h|h|h
 .left;refine⟨h,?_,?_,?_⟩<;>omega
 .right;left;refine⟨h.1,h.2,?_,?_,?_⟩<;>omega
 .right;right;left;refine⟨h.1,h.2,?_,?_,?_⟩<;>omega
 .right;right;right;left;refine⟨h.1,h.2,?_,?_,?_⟩<;>omega
 .right;right;right;right;left;refine⟨h.1,h.2,?_,?_,?_⟩<;>omega
 .right;right;right;right;right;left;refine⟨h.1,h.2,?_,?_,?_⟩<;>omega
 .right;right;right;right;right;right;left;refine⟨h.1,h.2,?_,?_,?_⟩<;>omega
 .right;right;right;right;right;right;right;refine⟨h,?_,?_,?_⟩<;>omega
def q_(f i c:Int):iR f i c=true↔((i=1/\f=224->160<=c)/\(i=1/\f=240->144<=c)/\128<=c/\(i=1/\f=237->c<=159)/\(i=1/\f=244->c<=143)/\c<=191):=by
 unfold iR;simp only[fH,iK];repeat' split
 all_goals omega
def vd(n b a:Int):py n b a=true↔¬((55296<=max b (qX n)/\min a (rC n)<=57343)\/min a (rC n)<max b (qX n)):=by
 unfold py;simp only[FX,xK,zt,ou];omega
def LQ:qX 2=128:=rfl
def ad4:qX 1=0:=rfl
def FG:qX 3=2048:=rfl
def AG:qX 4=65536:=rfl
def UC:rC 1=127:=rfl
def Lx:rC 2=2047:=rfl
def Du:rC 3=65535:=rfl
def zy:rC 4=1114111:=rfl
def sI(a:UInt8):fg [a]=true↔dC (bz a)≠0:=by
 have c:=mJ a;have d:=mQ a;simp only[fg,lU,rP,ki,mw,dN,iJ,vC];rcases qb (bz a) c d with h|h|h|h|h|h|h|h<;>
  (generalize bz a=x at*;obtain⟨g,b⟩:=h;simp only[b];simp[vd,pN,pZ,ad4,LQ,FG,AG,UC,Lx,Du,zy])<;>omega
def BF(a b:UInt8):fg [a,b]=true↔2<=dC (bz a)/\iR (bz a) 1 (bz b)=true:=by
 have j:=mJ a;have k:=mQ a;have l:=mJ b;have m:=mQ b;rw[q_];simp only[fg,lU,nm,rP,ki,ml,mw,dN,iJ,pW];by_cases f:128<=bz b/\bz b<=191
 .obtain⟨d,e⟩:=f
  rcases qb (bz a) j k with h|h|h|h|h|h|h|h<;>
   (generalize bz a=x at*;generalize bz b=y at*;obtain⟨g,i⟩:=h;simp only[i];simp[vd,pN,pZ,LQ,FG,AG,Lx,Du,zy,d,e])<;>omega
 .have c:(decide (128<=bz b)&&decide (bz b<=191))=false:=by
   rw[ui];simp only[ne_eq,fH,iK];exact f
  rw[c];simp;omega
def yd(a b c:UInt8):fg [a,b,c]=true↔3<=dC (bz a)/\iR (bz a) 1 (bz b)=true/\iR (bz a) 2 (bz c)=true:=by
 have m:=mJ a;have n:=mQ a;have o:=mJ b;have p:=mQ b;have q:=mJ c;have r:=mQ c;rw[q_,q_];simp only[fg,lU,nm,rP,ki,ml,mw,dN,iJ,pW];by_cases k:(128<=bz b/\bz b<=191)/\(128<=bz c/\bz c<=191)
 .obtain⟨⟨e,f⟩,i,j⟩:=k
  rcases qb (bz a) m n with h|h|h|h|h|h|h|h<;>
   (generalize bz a=x at*;generalize bz b=y at*;generalize bz c=z at*;obtain⟨g,l⟩:=h;simp only[l];simp[vd,pN,pZ,FG,AG,Du,zy,e,f,i,j])<;>omega
 .have d:(decide (128<=bz b)&&decide (bz b<=191)&&(decide (128<=bz c)&&decide (bz c<=191)))=false:=by
   rw[ui];simp only[ne_eq,fH,iK];exact k
  rw[d];simp;omega
def vh(a b c d:UInt8):fg [a,b,c,d]=true↔4<=dC (bz a)/\iR (bz a) 1 (bz b)=true/\iR (bz a) 2 (bz c)=true/\iR (bz a) 3 (bz d)=true:=by
 have p:=mJ a;have q:=mQ a;have r:=mJ b;have s:=mQ b;have t:=mJ c;have v:=mQ c;have w:=mJ d;have A:=mQ d;rw[q_,q_,q_];simp only[fg,lU,nm,rP,ki,ml,mw,dN,iJ,pW];by_cases n:(128<=bz b/\bz b<=191)/\(128<=bz c/\bz c<=191)/\(128<=bz d/\bz d<=191)
 .obtain⟨⟨f,i⟩,⟨j,k⟩,l,m⟩:=n
  rcases qb (bz a) p q with h|h|h|h|h|h|h|h<;>
   (generalize bz a=x at*;generalize bz b=y at*;generalize bz c=z at*;generalize bz d=u at*;obtain⟨g,o⟩:=h;simp only[o];simp[vd,pN,pZ,AG,zy,f,i,j,k,l,m])<;>omega
 .have e:(decide (128<=bz b)&&decide (bz b<=191)&&(decide (128<=bz c)&&decide (bz c<=191)&&(decide (128<=bz d)&&decide (bz d<=191))))=false:=by
   rw[ui];simp only[ne_eq,fH,iK];exact n
  rw[e];simp;omega
def oD(l:aM):Int:=
 if fg (l.take 1)then(if gG (l.take 1)<=l.length then(if fg (l.take (gG (l.take 1)).toNat)then 0 else 3)else if fg l then 23 else 3)else 6
def oe(l:aM):Int:=
 if fg (l.take 1)then(if gG (l.take 1)<=l.length then(if fg (l.take (gG (l.take 1)).toNat)then gG (l.take 1)else 0)else 0)else 0
def oE(l:aM):Int:=
 if fg (l.take 1)then(if gG (l.take 1)<=l.length then(if fg (l.take (gG (l.take 1)).toNat)then iw (l.take (gG (l.take 1)).toNat)else 0)else 0)else 0
def Tq(x:Int)(a:0<=x)(b:x<=255)(h:dC x≠0):fR x=dC x:=by
 rcases qb x a b with h|h|h|h|h|h|h|h<;>omega
def yE(x:Int):dC x=0\/dC x=1\/dC x=2\/dC x=3\/dC x=4:=by
 unfold dC;repeat' split;all_goals omega
def Wb(f size:Int)(i:Nat):ii f size i []=i:=by simp[ii]
def tl(f size:Int)(i:Nat)(c:UInt8)(t:aM)(a:(i:Int)<size)(b:iR f i (bz c)=true):ii f size i (c::t)=ii f size (i+1) t:=by
 simp[ii,a,b]
def uw(f size:Int)(i:Nat)(c:UInt8)(t:aM)(a:iR f i (bz c)=false):ii f size i (c::t)=i:=by
 simp[ii,a]
def tM(f size:Int)(i:Nat)(l:aM)(a:¬(i:Int)<size):ii f size i l=i:=by
 cases l<;>simp[ii,a]
def EM(f size:Int):∀(l:aM) (i:Nat),i<=ii f size i l
 |[],i=>by simp[ii]
 |c::t,i=>by
  simp only[ii];split
  .have:=EM f size t (i+1);omega
  .omega
def IP(f size:Int):∀(l:aM) (i:Nat),ii f size i l<=i+l.length
 |[],i=>by simp[ii]
 |c::t,i=>by
  simp only[ii,dN];split
  .have:=IP f size t (i+1);omega
  .omega
def Dd(f size:Int):∀(l:aM) (i:Nat),(i:Int)<=size->(ii f size i l:Int)<=size
 |[],i,h=>by simpa[ii]using h
 |c::t,i,h=>by
  simp only[ii];split
  .rename_i g
   simp only[Bool.and_eq_true,decide_eq_true_eq]at g;exact Dd f size t (i+1) (by omega)
  .exact h
def wk(l:aM):ey l<=l.length:=by
 cases l with
 |nil=>simp[ey]
 |cons a t=>
  simp only[ey,dN];split
  .omega
  .have:=IP (bz a) (dC (bz a)) t 1;omega
def EW(l:aM)(h:jc l=true):1<=ey l:=by
 cases l with
 |nil=>simp[jc]at h
 |cons a t=>
  simp only[ey,jc]at*
  split
  .rename_i g;simp[g]at h
  .exact EM _ _ _ _
def Dt(l:aM):ey l<=4:=by
 cases l with
 |nil=>simp[ey]
 |cons a t=>
  simp only[ey];split
  .omega
  .rename_i g
   have h:=Dd (bz a) (dC (bz a)) t 1 (by have:=yE (bz a);omega);have:=yE (bz a);omega
def L5(a:UInt8):gG [a]=dC (bz a):=by
 unfold gG;by_cases h:dC (bz a)=0
 .rw[aF (by rw[sI];simpa using h),h]
 .rw[aG (by rw[sI];exact h)]
  exact Tq _ (mJ a) (mQ a) h
def P_(a:UInt8)(h:dC (bz a)=1):iw [a]=bz a:=by
 unfold iw;rw[aG (by rw[sI];omega)];simp only[ki,mw];have b:=mJ a;have c:=mQ a;rcases qb (bz a) b c with h|h|h|h|h|h|h|h<;>omega
def aaT(a b:UInt8)(h:dC (bz a)=2)(c:iR (bz a) 1 (bz b)=true):iw [a,b]=val [a,b]:=by
 unfold iw;rw[aG (by rw[BF];exact⟨by omega,c⟩)];rw[q_]at c;have d:=mJ a;have e:=mQ a;simp only[ki,mw,ml,val,lc,iJ];rcases qb (bz a) d e with h|h|h|h|h|h|h|h<;>simp<;>omega
def Oz(a b c:UInt8)(h:dC (bz a)=3)(d:iR (bz a) 1 (bz b)=true)(e:iR (bz a) 2 (bz c)=true):iw [a,b,c]=val [a,b,c]:=by
 unfold iw;rw[aG (by rw[yd];exact⟨by omega,d,e⟩)];rw[q_]at d e;have f:=mJ a;have g:=mQ a;simp only[ki,mw,ml,val,lc,iJ,dN];rcases qb (bz a) f g with h|h|h|h|h|h|h|h<;>simp<;>omega
def Tp(a b c d:UInt8)(h:dC (bz a)=4)(e:iR (bz a) 1 (bz b)=true)(f:iR (bz a) 2 (bz c)=true)(g:iR (bz a) 3 (bz d)=true):iw [a,b,c,d]=val [a,b,c,d]:=by
 unfold iw;rw[aG (by rw[vh];exact⟨by omega,e,f,g⟩)];rw[q_]at e f g;have i:=mJ a;have j:=mQ a;simp only[ki,mw,ml,val,lc,iJ,dN];rcases qb (bz a) i j with h|h|h|h|h|h|h|h<;>simp<;>omega
def AX(a:UInt8)(t:aM)(k:Nat)(p:1<=k)(f:k<=t.length+1)(q:k<=4):fg ((a::t).take k)=true↔k<=ey (a::t):=by
 have j:∀(l:aM) (i:Nat),i<=ii (bz a) (dC (bz a)) i l:=fun l i=>EM _ _ l i;by_cases o:dC (bz a)=0
 .have e:ey (a::t)=0:=by simp[ey,o]
  rw[e];constructor
  .intro h
   exfalso;rcases(show k=1\/k=2\/k=3\/k=4 by omega)with rfl|rfl|rfl|rfl
   .rw[show(a::t).take 1=[a]from rfl,sI]at h;exact h o
   .rcases t with _|⟨b,t⟩
    .simp at f
    rw[show(a::b::t).take 2=[a,b]from rfl,BF]at h;omega
   .rcases t with _|⟨b,_|⟨c,t⟩⟩
    .simp at f
    .simp at f
    rw[show(a::b::c::t).take 3=[a,b,c]from rfl,yd]at h;omega
   .rcases t with _|⟨b,_|⟨c,_|⟨d,t⟩⟩⟩
    .simp at f
    .simp at f
    .simp at f
    rw[show(a::b::c::d::t).take 4=[a,b,c,d]from rfl,vh]at h;omega
  .intro h;omega
 .have e:ey (a::t)=ii (bz a) (dC (bz a)) 1 t:=by simp[ey,o]
  rw[e];rcases(show k=1\/k=2\/k=3\/k=4 by omega)with rfl|rfl|rfl|rfl
  .rw[show(a::t).take 1=[a]from rfl,sI];exact⟨fun _=>j _ _,fun _=>o⟩
  .rcases t with _|⟨b,t⟩
   .simp at f
   rw[show(a::b::t).take 2=[a,b]from rfl,BF];by_cases m:(1:Int)<dC (bz a)
   .cases hb:iR (bz a) 1 (bz b)with
    |false=>rw[uw _ _ _ _ _ (by simpa using hb)];simp
    |true=>rw[tl _ _ _ _ _ (by simpa using m) (by simpa using hb)];have:=j t 2;simp;omega
   .rw[tM _ _ _ _ (by simpa using m)];omega
  .rcases t with _|⟨b,_|⟨c,t⟩⟩
   .simp at f
   .simp at f
   rw[show(a::b::c::t).take 3=[a,b,c]from rfl,yd];by_cases m:(1:Int)<dC (bz a)
   .cases hb:iR (bz a) 1 (bz b)with
    |false=>rw[uw _ _ _ _ _ (by simpa using hb)];simp
    |true=>
     rw[tl _ _ _ _ _ (by simpa using m) (by simpa using hb)];by_cases g:(2:Int)<dC (bz a)
     .cases hc:iR (bz a) 2 (bz c)with
      |false=>rw[uw _ _ _ _ _ (by simpa using hc)];simp
      |true=>rw[tl _ _ _ _ _ (by simpa using g) (by simpa using hc)];have:=j t 3;simp;omega
     .rw[tM _ _ _ _ (by simpa using g)];simp;omega
   .rw[tM _ _ _ _ (by simpa using m)];omega
  .rcases t with _|⟨b,_|⟨c,_|⟨d,t⟩⟩⟩
   .simp at f
   .simp at f
   .simp at f
   rw[show(a::b::c::d::t).take 4=[a,b,c,d]from rfl,vh];by_cases m:(1:Int)<dC (bz a)
   .cases hb:iR (bz a) 1 (bz b)with
    |false=>rw[uw _ _ _ _ _ (by simpa using hb)];simp
    |true=>
     rw[tl _ _ _ _ _ (by simpa using m) (by simpa using hb)];by_cases g:(2:Int)<dC (bz a)
     .cases hc:iR (bz a) 2 (bz c)with
      |false=>rw[uw _ _ _ _ _ (by simpa using hc)];simp
      |true=>
       rw[tl _ _ _ _ _ (by simpa using g) (by simpa using hc)];by_cases n:(3:Int)<dC (bz a)
       .cases hd:iR (bz a) 3 (bz d)with
        |false=>rw[uw _ _ _ _ _ (by simpa using hd)];simp
        |true=>rw[tl _ _ _ _ _ (by simpa using n) (by simpa using hd)];have:=j t 4;simp;omega
       .rw[tM _ _ _ _ (by simpa using n)];simp;omega
     .rw[tM _ _ _ _ (by simpa using g)];simp;omega
   .rw[tM _ _ _ _ (by simpa using m)];omega
def xY(a:UInt8)(t:aM):jc (a::t)=true↔dC (bz a)≠0/\(ey (a::t):Int)=dC (bz a):=by
 by_cases b:dC (bz a)=0<;>simp[jc,ey,b]
def acl(a:UInt8)(t:aM)(h:jc (a::t)=true):iw ((a::t).take (ey (a::t)))=val ((a::t).take (ey (a::t))):=by
 have f:fg ((a::t).take (ey (a::t)))=true:=(AX a t _ (EW _ h) (wk _) (Dt _)).2 (aU _);rw[xY]at h;obtain⟨j,g⟩:=h;have e:=wk (a::t);have i:=Dt (a::t);generalize ey (a::t)=k at*
 rcases(show k=0\/k=1\/k=2\/k=3\/k=4 by omega)with rfl|rfl|rfl|rfl|rfl
 .simp at g;omega
 .exact P_ a (by simpa using g.symm)
 .rcases t with _|⟨b,t⟩
  .simp at e
  rw[show(a::b::t).take 2=[a,b]from rfl]at*;exact aaT a b (by simpa using g.symm) ((BF a b).1 f).2
 .rcases t with _|⟨b,_|⟨c,t⟩⟩
  .simp at e
  .simp at e
  rw[show(a::b::c::t).take 3=[a,b,c]from rfl]at*;exact Oz a b c (by simpa using g.symm) ((yd a b c).1 f).2.1 ((yd a b c).1 f).2.2
 .rcases t with _|⟨b,_|⟨c,_|⟨d,t⟩⟩⟩
  .simp at e
  .simp at e
  .simp at e
  rw[show(a::b::c::d::t).take 4=[a,b,c,d]from rfl]at*;exact Tp a b c d (by simpa using g.symm) ((vh a b c d).1 f).2.1 ((vh a b c d).1 f).2.2.1 ((vh a b c d).1 f).2.2.2
def adD(l:aM)(hl:l≠[]):oD l=eK l/\oe l=eo l/\oE l=ky l:=by
 match l,hl with
 |a::t,_=>
  have e1:(a::t).take 1=[a]:=rfl;unfold oD oe oE eK eo ky;rw[e1,L5];simp only[reduceCtorEq,if_false];by_cases hz:dC (bz a)=0
  .have hb:¬fg [a]=true:=by rw[sI];simpa using hz
   have hm:¬jc (a::t)=true:=by rw[xY];simp[hz]
   have hn:ey (a::t)=0:=by simp[ey,hz]
   simp only[if_neg hb,if_neg hm,if_pos hn];simp
  .have hb:fg [a]=true:=by rw[sI];exact hz
   simp only[if_pos hb];have hv:=yE (bz a);have hpos:1<=ey (a::t):=(AX a t 1 (by omega) (by omega) (by omega)).1 (by rw[e1];exact hb);have hsz:(ey (a::t):Int)<=dC (bz a):=by
    have:ey (a::t)=ii (bz a) (dC (bz a)) 1 t:=by simp[ey,hz]
    rw[this];exact Dd _ _ _ _ (by omega)
   have h0:¬ey (a::t)=0:=by omega
   simp only[if_neg h0];by_cases hc:dC (bz a)<=((a::t).length:Int)
   .have hk:=AX a t (dC (bz a)).toNat (by omega) (by simp at hc;omega) (by omega)
    simp only[if_pos hc];by_cases hw:jc (a::t)=true
    .have hm:=(xY a t).1 hw
     have ht:(dC (bz a)).toNat=ey (a::t):=by omega
     have hbb:fg ((a::t).take (dC (bz a)).toNat)=true:=hk.2 (by omega);simp only[if_pos hbb,if_pos hw];refine⟨trivial,hm.2.symm,?_⟩;rw[ht];exact acl a t hw
    .have hm:¬(ey (a::t):Int)=dC (bz a):=fun h=>hw ((xY a t).2 ⟨hz,h⟩)
     have hbb:¬fg ((a::t).take (dC (bz a)).toNat)=true:=fun h=>by have:=hk.1 h;omega
     have hne:¬ey (a::t)=(a::t).length:=by omega
     simp only[if_neg hbb,if_neg hw,if_neg hne];simp
   .have hw:¬jc (a::t)=true:=by
     rw[xY];have:=wk (a::t);simp only[List.length_cons]at*;omega
    simp only[if_neg hc,if_neg hw];have hk:=AX a t (a::t).length (by simp) (by simp) (by simp only[List.length_cons]at*;omega);rw[List.take_length]at hk;have hle:=wk (a::t);by_cases hf:fg (a::t)=true
    .have:ey (a::t)=(a::t).length:=by have:=hk.1 hf;omega
     simp only[if_pos hf,if_pos this];simp
    .have:¬ey (a::t)=(a::t).length:=fun h=>hf (hk.2 (by omega))
     simp only[if_neg hf,if_neg this];simp
def ub(s:aJ)(k:Nat)(h:k<s.size):(bl s).drop k=s[k]::(bl s).drop (k+1):=by
 rw[kR (by rw[bN];exact h)];rfl
def Jc{fn:Func}{t u v x:Tmp}(h:fn.results=#[.tmp t,.tmp u,.tmp v,.tmp x])(a:Array Value)(P:Program)(w:aB):
  (results fn a).run P w=.ok (.tuple #[a.getD t undef,a.getD u undef,a.getD v undef,a.getD x undef]) w:=by simp[results,h]
def JY(c:Int)(w:aB)(a:0<=c)(b:c<=255):
  Calls prog 294 #[.int .u8 c] w fun e w'=>e=.returned (.int .i64 (dC c))/\w=w':=by
 go_in;go_wp2;all_goals
  go_ret;refine⟨eJ ?_,rfl⟩;unfold dC;repeat' split
  all_goals (try omega)
def My(f i c:Int)(w:aB)(a:0<=f)(d:f<=255)(g:0<=c)(h:c<=255):
  Calls prog 295 #[.int .u8 f,.int .i64 i,.int .u8 c] w fun e w'=>e=.returned (.bool (iR f i c))/\w=w':=by
 go_in;go_wp2;all_goals
  go_ret;refine⟨ei (fun b=>Ending.returned (.bool b)) ?_,rfl⟩;simp only[lu,dI,ne_eq]at*
  unfold iR;rw[kE];simp only[fH,iK];repeat' split
  all_goals (try simp)
  all_goals (try omega)
def E'{k:IntKind}{a b:Int}{c d:Bool}(h:a=b)(g:c=d):Ending.returned (.tuple #[.int k a,.bool c])=.returned (.tuple #[.int k b,.bool d]):=by rw[h,g]
def XD(s:aJ)(w:aB)(u:s.size<=140737488351232)(t:0<s.size)(v:(dC (s[0].toNat:Int)==0)=false)(r:s.toList.isEmpty=false)(g:1<=dC (s[0].toNat:Int))(h:dC (s[0].toNat:Int)<=4)
  (N:Nat) (i:Hid (ii s[0].toNat (dC s[0].toNat) 1 ((bl s).drop 1)=N)):
   Calls prog 275 #[.string s] w (RG w (.tuple #[.int .i64 N,.bool (decide ((N:Int)=dC s[0].toNat))])):=by
 have p:(s[0].toNat:Int)<=255:=by have:=s[0].toNat_lt;omega
 go_in;go_wp2_with (go_at_call 294;refine dK (JY _ _ (by omega) (by omega)) ?_)
 go_loopw [2] (fun n wr=>∃k:Nat,1<=k/\k<=s.size/\(k:Int)<=dC (s[0].toNat:Int)/\n=.int .i64 k/\Hid (ii s[0].toNat (dC s[0].toNat) k ((bl s).drop k)=N)/\Gr w wr) (fun n _=>s.size-(intOf n).toNat)
 .exact⟨1,by omega,by omega,g,rfl,i,Gr.refl _⟩
 .
  obtain⟨k,l,m,o,rfl,a,b⟩:=hrel;by_cases d:(k:Int)<dC (s[0].toNat:Int)
  .by_cases f:k<s.size
   .have q:(s[k].toNat:Int)<=255:=by have:=s[k].toNat_lt;omega
    cases hc:iR (s[0].toNat:Int) k (s[k].toNat:Int)with
    |true=>
     have c:Hid (ii s[0].toNat (dC s[0].toNat) (k+1) ((bl s).drop (k+1))=N):=by
      have:=a.out;rw[ub s k f,tl _ _ _ _ _ d hc]at this;exact this
     go_wp2_with fail
     go_quiet ((go_at_call 295;exact tO (My _ _ _ _ (by omega) (by omega) (by omega) (by omega))))
     go_wp2;go_roundw
     .exact⟨k+1,by omega,by omega,by omega,by go_num,c,b.drewN _⟩
     .simp[intOf];omega
    |false=>
     have c:Hid (k=N):=by
      have:=a.out;rw[ub s k f,uw _ _ _ _ _ hc]at this;exact this
     go_wp2_with fail
     go_quiet ((go_at_call 295;exact tO (My _ _ _ _ (by omega) (by omega) (by omega) (by omega))))
     go_wp2;go_ret2;have:=c.out;subst this;exact⟨E' rfl (by rw[kE];simp),b.drewN _⟩
   .have c:Hid (k=N):=by
     have:=a.out;rw[jn (by rw[bN];omega),Wb]at this;exact this
    have j:decide (k<s.size)=false:=by simpa using f
    go_wp2_with fail
    go_quiet (fail)
    go_wp2;go_ret2;have:=c.out;subst this;exact⟨E' rfl (by rw[kE];simp),b.drewN _⟩
  .have c:Hid (k=N):=by
    have:=a.out;rw[tM _ _ _ _ d]at this;exact this
   have j:decide ((k:Int)<dC (s[0].toNat:Int))=false:=by simpa using d
   go_wp2_with fail
   go_quiet (fail)
   go_wp2;go_ret2;have:=c.out;subst this;exact⟨E' rfl (by rw[kE];simp),b.drewN _⟩
def WW(s:aJ)(w:aB)(a:s.size<=140737488351232)(d:0<s.size)(f:(dC (s[0].toNat:Int)==0)=true)(c:s.toList.isEmpty=false):
  Calls prog 275 #[.string s] w (RG w (.tuple #[.int .i64 0,.bool false])):=by
 have b:(s[0].toNat:Int)<=255:=by have:=s[0].toNat_lt;omega
 go_in;go_wp2_with (go_at_call 294;refine dK (JY _ _ (by omega) (by omega)) ?_);go_ret2;exact⟨rfl,Gr.refl _⟩
def Q9(s:aJ)(w:aB)(a:s.toList.isEmpty=true)(b:s.toList=[]):
  Calls prog 275 #[.string s] w (RG w (.tuple #[.int .i64 0,.bool false])):=by
 go_in;go_wp2_with fail;go_ret2;exact⟨rfl,Gr.refl _⟩
def Aj(s:aJ)(w:aB)(i:s.size<=140737488351232):
  Calls prog 275 #[.string s] w (RG w (.tuple #[.int .i64 (ey (bl s)),.bool (jc (bl s))])):=by
 by_cases g:0<s.size
 .have a:bl s=s[0]::(bl s).drop 1:=by have:=ub s 0 g;simpa using this
  have h:s.toList.isEmpty=false:=by rw[hI,a];rfl
  have j:=yE (bz s[0]);by_cases b:dC (bz s[0])=0
  .have d:ey (bl s)=0:=by rw[a];simp[ey,b]
   have f:jc (bl s)=false:=by rw[a];simp[jc,b]
   rw[d,f];exact WW s w i g (by simpa[bz]using b) h
  .have d:ey (bl s)=ii (bz s[0]) (dC (bz s[0])) 1 ((bl s).drop 1):=(ei ey a).trans (by simp[ey,b])
   have f:jc (bl s)=decide ((ii (bz s[0]) (dC (bz s[0])) 1 ((bl s).drop 1):Int)=dC (bz s[0])):=(ei jc a).trans (by simp[jc,b]);rw[d,f];unfold bz at*
   exact XD s w i g (by simpa using b) h (by omega) (by omega) _ rfl
 .have a:bl s=[]:=fQ.1 (by rw[bN];omega)
  have c:s.toList=[]:=by rw[hI,a]
  rw[a];exact Q9 s w (by rw[c];rfl) c
def Vn(x:Int)(a:0<=x)(b:x<2147483648):bits .and .i32 x 31=x%32:=bits_mask .i32 31 (aH rfl) wraps_i32 5 (aH rfl) x a b
def abU(x:Int)(a:0<=x)(b:x<2147483648):bits .and .i32 x 15=x%16:=bits_mask .i32 31 (aH rfl) wraps_i32 4 (aH rfl) x a b
def SQ(x:Int)(a:0<=x)(b:x<2147483648):bits .and .i32 x 7=x%8:=bits_mask .i32 31 (aH rfl) wraps_i32 3 (aH rfl) x a b
def DE(r:Int)(s:aJ)(k:Nat)(b:1<=k)(h:k<s.size):lc r (((bl s).drop 1).take k)=64*lc r (((bl s).drop 1).take (k-1))+(s[k].toNat:Int)%64:=by
 obtain⟨j,rfl⟩:∃j,k=j+1:=⟨k-1,by omega⟩;have a:j<((bl s).drop 1).length:=by rw[eh,bN];omega
 rw[eF a];unfold lc;rw[ta];simp only[ml,mw,yy];have e:((bl s).drop 1)[j]=s[j+1]:=by
  simp only[xe,pl 1 j];rfl
 rw[e];rfl
def wJ(s:aJ)(h:0<s.size):bl s=s[0]::(bl s).drop 1:=by have:=ub s 0 h;simpa using this
def acK(s:aJ)(w:aB)(f:s.size=1):
  Calls prog 276 #[.string s] w fun e w'=>e=.returned (.int .i32 (val (bl s)))/\w=w':=by
 have c:0<s.size:=by omega
 have d:(s[0].toNat:Int)<=255:=by have:=s[0].toNat_lt;omega
 have a:Hid (val (bl s)=(s[0].toNat:Int)):=by
  have b:(bl s).drop 1=[]:=jn (by rw[bN];omega);have e:=wJ s c;rw[b]at e;rw[e];rfl
 go_in;go_wp2_with fail
 go_loop [3,4] (fun r i=>i=.int .i64 1/\r=.int .i32 (s[0].toNat:Int)) (fun _ _=>0)
 .exact⟨rfl,rfl⟩
 .
  obtain⟨rfl,rfl⟩:=hrel;go_wp2_with fail;go_ret;exact⟨eJ a.symm,rfl⟩
def TU(s:aJ)(w:aB)(B:s.size=2):
  Calls prog 276 #[.string s] w fun e w'=>e=.returned (.int .i32 (val (bl s)))/\w=w':=by
 have o:0<s.size:=by omega
 have p:(s[0].toNat:Int)<=255:=by have:=s[0].toNat_lt;omega
 have z:=Vn (s[0].toNat:Int) (by omega) (by omega);have h:Hid (val (bl s)=lc ((s[0].toNat:Int)%32) (((bl s).drop 1).take 1)):=by
  have j:((bl s).drop 1).take 1=(bl s).drop 1:=eq (by rw[eh,bN];omega);have a:((bl s).drop 1).length=1:=by rw[eh,bN];omega
  have e:=wJ s o;rw[j,show val (bl s)=val (s[0]::(bl s).drop 1)from ei val e];generalize(bl s).drop 1=t at*
  rcases t with _|⟨b,t⟩
  .simp at a
  .have d:t.length=0:=by simpa using a
   show lc (bz s[0]%_) _=_;rw[d];rfl
 go_in;go_wp2_with fail
 go_loop [3,4] (fun r i=>∃k:Nat,1<=k/\k<=2/\i=.int .i64 k/\∃v:Int,Hid (v=lc ((s[0].toNat:Int)%32) (((bl s).drop 1).take (k-1)))/\0<=v/\(k<=1->v<32)/\(k<=2->v<2048)/\(k<=3->v<131072)/\v<8388608/\r=.int .i32 v) (fun _ i=>2-(intOf i).toNat)
 .exact⟨1,by omega,by omega,rfl,(s[0].toNat:Int)%32,rfl,by omega,by omega,by omega,by omega,by omega,rfl⟩
 .
  obtain⟨k,f,n,rfl,v,g,x,j,a,d,y,rfl⟩:=hrel;by_cases c:k<2
  .have m:k<s.size:=by omega
   have q:(s[k].toNat:Int)<=255:=by have:=s[k].toNat_lt;omega
   have l:Hid (v*64+(s[k].toNat:Int)%64=lc ((s[0].toNat:Int)%32) (((bl s).drop 1).take k)):=by
    show _=_;rw[DE _ s k f m,<-g.out];omega
   have u:v<131072:=d (by omega);go_wp2_with fail;exact⟨⟨k+1,by omega,by omega,by go_num,_,l,by omega,by omega,by omega,by omega,by omega,rfl⟩,by simp[intOf];omega⟩
  .go_wp2_with fail
   go_ret;refine⟨eJ ?_,rfl⟩;obtain rfl:k=2:=by omega
   rw[g.out,h.out]
def P8(s:aJ)(w:aB)(B:s.size=3):
  Calls prog 276 #[.string s] w fun e w'=>e=.returned (.int .i32 (val (bl s)))/\w=w':=by
 have o:0<s.size:=by omega
 have p:(s[0].toNat:Int)<=255:=by have:=s[0].toNat_lt;omega
 have z:=abU (s[0].toNat:Int) (by omega) (by omega);have h:Hid (val (bl s)=lc ((s[0].toNat:Int)%16) (((bl s).drop 1).take 2)):=by
  have j:((bl s).drop 1).take 2=(bl s).drop 1:=eq (by rw[eh,bN];omega);have a:((bl s).drop 1).length=2:=by rw[eh,bN];omega
  have e:=wJ s o;rw[j,show val (bl s)=val (s[0]::(bl s).drop 1)from ei val e];generalize(bl s).drop 1=t at*
  rcases t with _|⟨b,t⟩
  .simp at a
  .have d:t.length=1:=by simpa using a
   show lc (bz s[0]%_) _=_;rw[d];rfl
 go_in;go_wp2_with fail
 go_loop [3,4] (fun r i=>∃k:Nat,1<=k/\k<=3/\i=.int .i64 k/\∃v:Int,Hid (v=lc ((s[0].toNat:Int)%16) (((bl s).drop 1).take (k-1)))/\0<=v/\(k<=1->v<32)/\(k<=2->v<2048)/\(k<=3->v<131072)/\v<8388608/\r=.int .i32 v) (fun _ i=>3-(intOf i).toNat)
 .exact⟨1,by omega,by omega,rfl,(s[0].toNat:Int)%16,rfl,by omega,by omega,by omega,by omega,by omega,rfl⟩
 .
  obtain⟨k,f,n,rfl,v,g,x,j,a,d,y,rfl⟩:=hrel;by_cases c:k<3
  .have m:k<s.size:=by omega
   have q:(s[k].toNat:Int)<=255:=by have:=s[k].toNat_lt;omega
   have l:Hid (v*64+(s[k].toNat:Int)%64=lc ((s[0].toNat:Int)%16) (((bl s).drop 1).take k)):=by
    show _=_;rw[DE _ s k f m,<-g.out];omega
   have u:v<131072:=d (by omega);go_wp2_with fail;exact⟨⟨k+1,by omega,by omega,by go_num,_,l,by omega,by omega,by omega,by omega,by omega,rfl⟩,by simp[intOf];omega⟩
  .go_wp2_with fail
   go_ret;refine⟨eJ ?_,rfl⟩;obtain rfl:k=3:=by omega
   rw[g.out,h.out]
def Zi(s:aJ)(w:aB)(B:s.size=4):
  Calls prog 276 #[.string s] w fun e w'=>e=.returned (.int .i32 (val (bl s)))/\w=w':=by
 have o:0<s.size:=by omega
 have p:(s[0].toNat:Int)<=255:=by have:=s[0].toNat_lt;omega
 have z:=SQ (s[0].toNat:Int) (by omega) (by omega);have h:Hid (val (bl s)=lc ((s[0].toNat:Int)%8) (((bl s).drop 1).take 3)):=by
  have j:((bl s).drop 1).take 3=(bl s).drop 1:=eq (by rw[eh,bN];omega);have a:((bl s).drop 1).length=3:=by rw[eh,bN];omega
  have e:=wJ s o;rw[j,show val (bl s)=val (s[0]::(bl s).drop 1)from ei val e];generalize(bl s).drop 1=t at*
  rcases t with _|⟨b,t⟩
  .simp at a
  .have d:t.length=2:=by simpa using a
   show lc (bz s[0]%_) _=_;rw[d];rfl
 go_in;go_wp2_with fail
 go_loop [3,4] (fun r i=>∃k:Nat,1<=k/\k<=4/\i=.int .i64 k/\∃v:Int,Hid (v=lc ((s[0].toNat:Int)%8) (((bl s).drop 1).take (k-1)))/\0<=v/\(k<=1->v<32)/\(k<=2->v<2048)/\(k<=3->v<131072)/\v<8388608/\r=.int .i32 v) (fun _ i=>4-(intOf i).toNat)
 .exact⟨1,by omega,by omega,rfl,(s[0].toNat:Int)%8,rfl,by omega,by omega,by omega,by omega,by omega,rfl⟩
 .
  obtain⟨k,f,n,rfl,v,g,x,j,a,d,y,rfl⟩:=hrel;by_cases c:k<4
  .have m:k<s.size:=by omega
   have q:(s[k].toNat:Int)<=255:=by have:=s[k].toNat_lt;omega
   have l:Hid (v*64+(s[k].toNat:Int)%64=lc ((s[0].toNat:Int)%8) (((bl s).drop 1).take k)):=by
    show _=_;rw[DE _ s k f m,<-g.out];omega
   have u:v<131072:=d (by omega);go_wp2_with fail;exact⟨⟨k+1,by omega,by omega,by go_num,_,l,by omega,by omega,by omega,by omega,by omega,rfl⟩,by simp[intOf];omega⟩
  .go_wp2_with fail
   go_ret;refine⟨eJ ?_,rfl⟩;obtain rfl:k=4:=by omega
   rw[g.out,h.out]
def adF(s:aJ)(w:aB)(a:1<=s.size)(b:s.size<=4):
  Calls prog 276 #[.string s] w fun e w'=>e=.returned (.int .i32 (val (bl s)))/\w=w':=by
 rcases(show s.size=1\/s.size=2\/s.size=3\/s.size=4 by omega)with h|h|h|h
 .exact acK s w h
 .exact TU s w h
 .exact P8 s w h
 .exact Zi s w h
def DX(s:aJ)(a b:Nat):bl (s.extract a b)=((bl s).drop a).take (b-a):=Lib.extract_data s a b
def EG(s:aJ)(n:Nat)(h:n<=s.size):(s.extract 0 n).size=n:=by
 rw[<-bN,DX];simp[bN];omega
def FO(s:aJ)(n:Nat):bl (s.extract 0 n)=(bl s).take n:=by
 rw[DX];simp
def uy(s:aJ)(n:Nat):bl (s.extract n s.size)=(bl s).drop n:=by
 rw[DX];apply eq;simp[bN]
def rQ(s:aJ)(n:Nat):(s.extract n s.size).size=s.size-n:=by
 rw[<-bN,uy];simp[bN]
def XJ(s:aJ)(w:aB)(j:s.size<=140737488351232)(l:s.toList.isEmpty=false)(b:¬s.toList=[])(n:Nat)(i:Hid (ey (bl s)=n))(k:Hid (jc (bl s)=true))(d:1<=n)(f:n<=4)(g:n<=s.size):
  Calls prog 246 #[.string s] w (RG w (.tuple #[.int .i32 (val ((bl s).take n)),.int .i64 n,.int .i64 0])):=by
 go_in;go_wp2_with fail;refine bA (Aj s _ j) fun w' h=>?_;rw[i.out,k.out];have c:=EG s n g;have a:=aA c;clear c;go_wp2_with fail;refine(adF _ _ (by rw[a.out];exact d) (by rw[a.out];exact f)).mono ?_;rintro e w' ⟨rfl,rfl⟩;rw[FO];go_wp2_with fail
 go_ret3
 exact⟨rfl,h⟩
def aaA(s:aJ)(w:aB)(f:s.size<=140737488351232)(l:s.toList.isEmpty=false)(i:¬s.toList=[])(n:Nat)(d:Hid (ey (bl s)=n))(g:Hid (jc (bl s)=false))(E:Int)
  (k:(n=0/\E=6)\/(n≠0/\n=s.size/\E=23)\/(n≠0/\n≠s.size/\E=3)):
  Calls prog 246 #[.string s] w (RG w (.tuple #[.int .i32 0,.int .i64 0,.int .i64 E])):=by
 rcases k with⟨a,rfl⟩|⟨a,c,rfl⟩|⟨a,c,rfl⟩
 .have j:((n:Int)==0)=true:=by simpa using a
  go_in;go_wp2_with fail;refine bA (Aj s _ f) fun w' b=>?_;rw[d.out,g.out];go_wp2_with fail
  go_ret3
  exact⟨rfl,b⟩
 .have j:((n:Int)==0)=false:=by simpa using a
  have h:((n:Int)==(s.size:Int))=true:=by rw[c];simp
  go_in;go_wp2_with fail;refine bA (Aj s _ f) fun w' b=>?_;rw[d.out,g.out];go_wp2_with fail
  go_ret3
  exact⟨rfl,b⟩
 .have j:((n:Int)==0)=false:=by simpa using a
  have h:((n:Int)==(s.size:Int))=false:=by simp;omega
  go_in;go_wp2_with fail;refine bA (Aj s _ f) fun w' b=>?_;rw[d.out,g.out];go_wp2_with fail
  go_ret3
  exact⟨rfl,b⟩
def R'(s:aJ)(w:aB)(a:s.toList.isEmpty=true)(b:s.toList=[]):
  Calls prog 246 #[.string s] w (RG w (.tuple #[.int .i32 0,.int .i64 0,.int .i64 1])):=by
 go_in;go_wp2_with fail
 go_ret3
 exact⟨rfl,Gr.refl _⟩
def Td(s:aJ):bl s=[]↔s.size=0:=by rw[<-bN,fQ]
def Bo(s:aJ)(w:aB)(l:s.size<=140737488351232):
  Calls prog 246 #[.string s] w (RG w (.tuple #[.int .i32 (ky (bl s)),.int .i64 (eo (bl s)),.int .i64 (eK (bl s))])):=by
 by_cases f:bl s=[]
 .have a:s.toList=[]:=by rw[hI,f]
  rw[f];exact R' s w (by rw[a];rfl) a
 .have a:¬s.toList=[]:=by rw[hI];exact f
  have k:s.toList.isEmpty=false:=by simpa using a
  by_cases d:jc (bl s)=true
  .have j:ky (bl s)=val ((bl s).take (ey (bl s))):=by simp[ky,d]
   have i:eo (bl s)=ey (bl s):=by simp[eo,d]
   have h:eK (bl s)=0:=by simp[eK,d,f]
   rw[j,i,h];exact XJ s w l k a _ rfl d (EW _ d) (Dt _) (by have:=wk (bl s);rw[bN]at this;exact this)
  .have b:jc (bl s)=false:=by simpa using d
   have j:ky (bl s)=0:=by simp[ky,b]
   have i:eo (bl s)=0:=by simp[eo,b]
   have h:eK (bl s)=if ey (bl s)=0 then 6 else if ey (bl s)=(bl s).length then 23 else 3:=by simp[eK,b,f]
   rw[j,i];refine aaA s w l k a _ rfl b _ ?_;rw[h,bN];by_cases c:ey (bl s)=0
   .exact .inl ⟨c,by rw[aG c]⟩
   .by_cases g:ey (bl s)=s.size
    .exact .inr (.inl ⟨c,g,by rw[aF c,aG g]⟩)
    .exact .inr (.inr ⟨c,g,by rw[aF c,aF g]⟩)
def xA(l:aM)(h:eK l=0):jc l=true/\l≠[]:=by
 unfold eK at h;by_cases c:l=[]
 .simp[c]at h
 .by_cases b:jc l=true
  .exact⟨b,c⟩
  .simp only[aF c,aF b]at h
   split at h
   .omega
   .split at h<;>omega
def yc(l:aM)(h:eK l=0):1<=eo l:=by
 have:=(xA l h).1;simp only[eo,this,vC];exact EW l this
def Bl(l:aM):eo l<=l.length:=by
 unfold eo;split
 .exact wk l
 .omega
def qs:Nat->aM->Int
 |0,_=>0
 |f+1,l=>if l=[]then 0 else if eK l=0 then qs f (l.drop (eo l))else eK l
def qa:Nat->Nat->aM->Nat
 |0,_,_=>0
 |f+1,k,l=>if l=[]then 0 else if eK l=0 then qa f (k+eo l) (l.drop (eo l))else k
def qw:Nat->aM->List Int
 |0,_=>[]
 |f+1,l=>if l=[]then[]else if eK l=0 then ky l::qw f (l.drop (eo l))else[]
def qo:Nat->Nat->aM->List Nat
 |0,_,_=>[]
 |f+1,k,l=>if l=[]then[]else if eK l=0 then k::qo f (k+eo l) (l.drop (eo l))else[]
def nN(l:aM)(f:Nat)(h:eK l=0)(a:l.length<=f+1):(l.drop (eo l)).length<=f:=by
 have:=yc l h;rw[eh];omega
def LM:∀(f g:Nat) (l:aM),l.length<=f->l.length<=g->qs f l=qs g l
 |0,0,_,_,_=>rfl
 |0,g+1,l,h,_=>by have:l=[]:=fQ.1 (by omega);simp[qs,this]
 |f+1,0,l,_,h=>by have:l=[]:=fQ.1 (by omega);simp[qs,this]
 |f+1,g+1,l,h1,h2=>by
  simp only[qs];by_cases c:l=[]
  .simp[c]
  .by_cases d:eK l=0
   .simp only[aF c,aG d];exact LM f g _ (nN l f d h1) (nN l g d h2)
   .simp only[aF c,aF d]
def Je:∀(f g:Nat) (k:Nat) (l:aM),l.length<=f->l.length<=g->qa f k l=qa g k l
 |0,0,_,_,_,_=>rfl
 |0,g+1,k,l,h,_=>by have:l=[]:=fQ.1 (by omega);simp[qa,this]
 |f+1,0,k,l,_,h=>by have:l=[]:=fQ.1 (by omega);simp[qa,this]
 |f+1,g+1,k,l,h1,h2=>by
  simp only[qa];by_cases c:l=[]
  .simp[c]
  .by_cases d:eK l=0
   .simp only[aF c,aG d];exact Je f g _ _ (nN l f d h1) (nN l g d h2)
   .simp only[aF c,aF d]
def M3:∀(f g:Nat) (l:aM),l.length<=f->l.length<=g->qw f l=qw g l
 |0,0,_,_,_=>rfl
 |0,g+1,l,h,_=>by have:l=[]:=fQ.1 (by omega);simp[qw,this]
 |f+1,0,l,_,h=>by have:l=[]:=fQ.1 (by omega);simp[qw,this]
 |f+1,g+1,l,h1,h2=>by
  simp only[qw];by_cases c:l=[]
  .simp[c]
  .by_cases d:eK l=0
   .simp only[aF c,aG d];rw[M3 f g _ (nN l f d h1) (nN l g d h2)]
   .simp only[aF c,aF d]
def Lm:∀(f g:Nat) (k:Nat) (l:aM),l.length<=f->l.length<=g->qo f k l=qo g k l
 |0,0,_,_,_,_=>rfl
 |0,g+1,k,l,h,_=>by have:l=[]:=fQ.1 (by omega);simp[qo,this]
 |f+1,0,k,l,_,h=>by have:l=[]:=fQ.1 (by omega);simp[qo,this]
 |f+1,g+1,k,l,h1,h2=>by
  simp only[qo];by_cases c:l=[]
  .simp[c]
  .by_cases d:eK l=0
   .simp only[aF c,aG d];rw[Lm f g _ _ (nN l f d h1) (nN l g d h2)]
   .simp only[aF c,aF d]
def iH(l:aM):Int:=qs l.length l
def ls(k:Nat)(l:aM):Nat:=qa l.length k l
def iy(l:aM):List Int:=qw l.length l
def jY(k:Nat)(l:aM):List Nat:=qo l.length k l
def Jz:iH []=0:=rfl
def GJ(k:Nat):ls k []=0:=rfl
def GP:iy []=[]:=rfl
def Qy(k:Nat):jY k []=[]:=rfl
def LX(l:aM)(b:l≠[])(h:eK l≠0):iH l=eK l:=by
 rcases l with _|⟨a,t⟩
 .exact absurd rfl b
 .simp[iH,qs,h]
def Lb(k:Nat)(l:aM)(b:l≠[])(h:eK l≠0):ls k l=k:=by
 rcases l with _|⟨a,t⟩
 .exact absurd rfl b
 .simp[ls,qa,h]
def Cv(l:aM)(h:eK l≠0):iy l=[]:=by
 rcases l with _|⟨a,t⟩
 .rfl
 .simp[iy,qw,h]
def Co(k:Nat)(l:aM)(h:eK l≠0):jY k l=[]:=by
 rcases l with _|⟨a,t⟩
 .rfl
 .simp[jY,qo,h]
def MC(l:aM)(h:eK l=0):iH l=iH (l.drop (eo l)):=by
 have c:=(xA l h).2;rcases l with _|⟨a,t⟩
 .exact absurd rfl c
 .have b:=nN _ t.length h (by simp)
  rw[show iH (a::t)=qs t.length ((a::t).drop (eo (a::t))) by simp[iH,qs,h]];exact LM _ _ _ b (aU _)
def M4(k:Nat)(l:aM)(h:eK l=0):ls k l=ls (k+eo l) (l.drop (eo l)):=by
 have c:=(xA l h).2;rcases l with _|⟨a,t⟩
 .exact absurd rfl c
 .have b:=nN _ t.length h (by simp)
  rw[show ls k (a::t)=qa t.length (k+eo (a::t)) ((a::t).drop (eo (a::t))) by simp[ls,qa,h]];exact Je _ _ _ _ b (aU _)
def BN(l:aM)(h:eK l=0):iy l=ky l::iy (l.drop (eo l)):=by
 have c:=(xA l h).2;rcases l with _|⟨a,t⟩
 .exact absurd rfl c
 .have b:=nN _ t.length h (by simp)
  rw[show iy (a::t)=ky (a::t)::qw t.length ((a::t).drop (eo (a::t))) by simp[iy,qw,h]];rw[M3 _ _ _ b (aU _)];rfl
def Eh(k:Nat)(l:aM)(h:eK l=0):jY k l=k::jY (k+eo l) (l.drop (eo l)):=by
 have c:=(xA l h).2;rcases l with _|⟨a,t⟩
 .exact absurd rfl c
 .have b:=nN _ t.length h (by simp)
  rw[show jY k (a::t)=k::qo t.length (k+eo (a::t)) ((a::t).drop (eo (a::t))) by simp[jY,qo,h]];rw[Lm _ _ _ _ b (aU _)];rfl
def GK{P:aM->Prop}(a:P [])(b:∀l,l≠[]->eK l≠0->P l)(e:∀l,eK l=0->P (l.drop (eo l))->P l)(l:aM):P l:=by
 obtain⟨n,f⟩:∃n,l.length<=n:=⟨_,aU _⟩
 induction n generalizing l with
 |zero=>have:l=[]:=fQ.1 (by omega);rw[this];exact a
 |succ n g=>
  by_cases c:l=[]
  .rw[c];exact a
  .by_cases d:eK l=0
   .exact e l d (g _ (nN l n d f))
   .exact b l c d
def Fh(l:aM):∀k,(iy l).length=(jY k l).length:=by
 refine GK (P:=fun l=>∀k,(iy l).length=(jY k l).length) ?_ ?_ ?_ l
 .intro k;rfl
 .intro l _ h k;rw[Cv l h,Co k l h];rfl
 .intro l h a k;rw[BN l h,Eh k l h,dN,dN,a]
def MY(l:aM):(iy l).length<=l.length:=by
 refine GK (P:=fun l=>(iy l).length<=l.length) ?_ ?_ ?_ l
 .simp[GP]
 .intro l _ h;rw[Cv l h];simp
 .intro l h a;rw[BN l h,dN];have:=yc l h;have:=Bl l;rw[eh]at a;omega
def J'(s:aJ)(w:aB)(B:s.size<=140737488351232):
  Calls prog 227 #[.string s] w (RG w (.tuple #[.int .i64 (ls 0 (bl s)),.int .i64 (iH (bl s))])):=by
 obtain⟨A,a⟩:∃A,A=ls 0 (bl s):=⟨_,rfl⟩;obtain⟨E,b⟩:∃E,E=iH (bl s):=⟨_,rfl⟩;rw[<-a,<-b];have q:=aA a;have r:=aA b;go_in;go_wp2_with fail
 go_loopw [4] (fun i wr=>∃k:Nat,k<=s.size/\i=.int .i64 k/\Hid (A=ls k ((bl s).drop k))/\Hid (E=iH ((bl s).drop k))/\Gr w wr) (fun i _=>s.size-(intOf i).toNat)
 .exact⟨0,bW _,rfl,q,r,Gr.refl _⟩
 .
  obtain⟨k,z,rfl,a,b,o⟩:=hrel;by_cases c:k<s.size
  .have f:(bl s).drop k≠[]:=by rw[ub s k c];simp
   by_cases d:eK ((bl s).drop k)=0
   .have j:Hid (A=ls (k+eo ((bl s).drop k)) ((bl s).drop (k+eo ((bl s).drop k)))):=by
     have:=a.out;rw[M4 _ _ d,nD]at this;exact this
    have l:Hid (E=iH ((bl s).drop (k+eo ((bl s).drop k)))):=by
     have:=b.out;rw[MC _ d,nD]at this;exact this
    have y:=yc _ d;have p:=Bl ((bl s).drop k);rw[eh,bN]at p;have D:=aA d;go_wp2_with fail;refine(Bo _ _ (by rw[rQ];omega)).mono ?_;rintro e w' ⟨rfl,m⟩;rw[uy,D.out];generalize ky ((bl s).drop k)=R;generalize eo ((bl s).drop k)=n at*
    go_wp2_with fail;go_roundw
    .exact⟨k+n,by omega,by go_num,j,l,o.trans m⟩
    .simp[intOf];omega
   .have j:Hid (A=k):=by
     have:=a.out;rw[Lb _ _ f d]at this;exact this
    have l:Hid (E=eK ((bl s).drop k)):=by
     have:=b.out;rw[LX _ f d]at this;exact this
    have D:(eK ((bl s).drop k) != 0)=true:=by simpa using d
    go_wp2_with fail;refine(Bo _ _ (by rw[rQ];omega)).mono ?_;rintro e w' ⟨rfl,m⟩;rw[uy];generalize ky ((bl s).drop k)=R;generalize eo ((bl s).drop k)=n at*
    generalize eK ((bl s).drop k)=x at*
    go_wp2_with fail;go_ret2;have g:=j.out;have h:=l.out;subst g h;exact⟨rfl,o.trans m⟩
  .have g:=a.out
   have h:=b.out;have t:(bl s).drop k=[]:=jn (by rw[bN];omega);rw[t]at g h;rw[GJ]at g;rw[Jz]at h;have u:=aA g;have v:=aA h;go_wp2_with fail;go_ret2;have g:=u.out;have h:=v.out;subst g h;exact⟨rfl,o⟩
def Kr(s:aJ)(w:aB)(b:s.size<=140737488351232):
  Calls prog 216 #[.string s] w (RG w (.bool (iH (bl s)==0))):=by
 go_in;go_wp2_with fail;refine bA (J' _ _ b) fun w' a=>?_;go_wp2_with fail;go_ret;exact⟨rfl,a⟩
section
open Go.RowKit Go.Shelf
attribute [local go_sem] Oper.semAt_some
def jR(k:Nat)(l:aM):List (Nat×Int):=(jY k l).zip (iy l)
def ZR(k:Nat):jR k []=[]:=rfl
def WT(k:Nat)(l:aM)(h:eK l≠0):jR k l=[]:=by unfold jR;rw[Co k l h];rfl
def To(k:Nat)(l:aM)(h:eK l=0):jR k l=(k,ky l)::jR (k+eo l) (l.drop (eo l)):=by
 unfold jR;rw[Eh k l h,BN l h];rfl
def vw(B:Nat)(W a:aB):Prop:=a.heap[B]? =W.heap[B]?
def LA{B:Nat}{a b c:aB}(h:vw B a b)(k:vw B b c):vw B a c:=k.trans h
def MM(s:aJ)(w:aB):
  Calls prog 217 #[.string s] w fun e w'=>e=.returned (.func (.func 245) #[] #[bZ (w.heap.size)])/\w'=w.alloc (.cells #[.string s] 9):=by
 go_in;go_wp2;go_ret;exact⟨rfl,rfl⟩
def abS(n:Nat)(hn:1<=n)(l o:Nat)(s:aJ)(hs:s.size<=140737488351232)(f:List (Nat×Int))(Z:Hid (f=jR 0 (bl s)))(J P:List (Nat×Int)->aB->Prop)
  (W:aB) (y:AbidesFrom W.heap.size J)
  (S:∀a x G,J a G->a.length<f.length->YieldAt Fence.wide (n-1) prog l #[.int .i64 (x.1:Int),.int .i32 x.2] G fun e u=>
   (e=.returned (.bool true)/\J (a++[x]) u/\vw o G u)\/(e=.returned (.bool false)/\P (a++[x]) u))
  (I:Boxed W o 9 (.string s)) (Y:J [] W):
  CallsIn Fence.wide n prog 245 #[.func (.yield l) #[] #[],bZ o] W fun e u=>(∃v,e=.returned v)/\
   ((∃U,U=f/\J U u)\/(∃a,a<+:f/\P a u)):=by
 refine callsIn_of_wp func245 rfl eV ?_ rfl;simp only[ntmps245,bQ,dN,iJ,Nat.reduceAdd,Nat.reduceSub,xy,wZ,xj,yK,mZ,mB];have V:=aA S;have O:=aA y
 gi_wp2
 gi_loopw [3,4,5,6] (fun i _ _ _ wr=>∃(k:Nat) (a:List (Nat×Int)),k<=s.size/\i=.int .i64 k/\Hid (f=a++jR k ((bl s).drop k))/\Boxed wr o 9 (.string s)/\J a wr)
  (fun i _ _ _ _=>s.size-(intOf i).toNat)
 .exact⟨0,[],bW _,rfl,Z,I,Y⟩
 .
  obtain⟨k,a,F,rfl,w,t,j⟩:=hrel;have a1:=t.cell;have N:=aA t;by_cases c:k<s.size
  .have B:(bl s).drop k≠[]:=by rw[ub s k c];simp
   by_cases d:eK ((bl s).drop k)=0
   .have a2:=yc _ d
    have M:=Bl ((bl s).drop k);rw[eh,bN]at M;have g:Hid (f=(a++[(k,ky ((bl s).drop k))])++jR (k+eo ((bl s).drop k)) ((bl s).drop (k+eo ((bl s).drop k)))):=by
     have:=w.out;rw[To _ _ d,nD]at this;simpa[Hid]using this
    have D:=aA d
    gi_wp2_with fail
    refine⟨eV,?_⟩;refine(nJ.2 (Bo _ _ (by rw[rQ];omega))).mono ?_;rintro e w' ⟨rfl,b⟩;rw[uy,D.out];generalize ky ((bl s).drop k)=R at*
    generalize eo ((bl s).drop k)=m at*
    have q:=O _ _ _ none j ⟨vE b,aeR b,vr b,BM b,fun k F _=>ma b k F⟩ (fun r e=>by cases e);have p:a.length<f.length:=by rw[g.out];simp
    obtain⟨fn,T,C,Q,hy,hR⟩:=V.out _ (k,R) w' q p;dsimp only at hy;have H:Hid (Boxed w' o 9 (.string s)):=by show w'.heap[o]? =_;rw[ma b o N.out.lt];exact N
    gi_wp2
    refine hR.mono ?_;rintro e X (⟨rfl,K,L⟩|⟨rfl,z⟩)
    .gi_wp2
     go_roundw
     .exact⟨k+m,_,by omega,by go_num,g,(show X.heap[o]? =_ from L.trans H),K⟩
     .simp[intOf];omega
    .gi_wp2
     refine bI (xT rfl _ _ _) rfl ?_;exact⟨⟨_,rfl⟩,.inr ⟨_,⟨_,g.symm⟩,z⟩⟩
   .have g:Hid (a=f):=by
     have:=w.out;rw[WT _ _ d,je]at this;exact this.symm
    have D:(eK ((bl s).drop k) != 0)=true:=by simpa using d
    gi_wp2_with fail
    refine⟨eV,?_⟩;refine(nJ.2 (Bo _ _ (by rw[rQ];omega))).mono ?_;rintro e w' ⟨rfl,b⟩;rw[uy];generalize ky ((bl s).drop k)=R at*
    generalize eo ((bl s).drop k)=m at*
    generalize eK ((bl s).drop k)=E at*
    have q:=O _ _ _ none j ⟨vE b,aeR b,vr b,BM b,fun k F _=>ma b k F⟩ (fun r e=>by cases e)
    gi_wp2
    refine⟨fun _ h=>(by cases h),?_⟩
    gi_wp2
    refine bI (xT rfl _ _ _) rfl ?_;exact⟨⟨_,rfl⟩,.inl ⟨_,g,q⟩⟩
  .have g:Hid (a=f):=by
    have:=w.out;rw[jn (by rw[bN];omega),ZR,je]at this;exact this.symm
   gi_wp2
   go_end0
   exact⟨⟨_,rfl⟩,.inl ⟨_,g,j⟩⟩
def Ka(n:Nat)(i:1<=n)(a:Nat)(s:aJ)(j:s.size<=140737488351232)(w:aB)(b:Boxed w a 9 (.string s)):
  SeqStopsK Fence.wide n prog 245 #[bZ a] (fun x:Nat×Int=>#[Value.int .i64 (x.1:Int),Value.int .i32 x.2]) (vw a) (fun k=>k=jR 0 (bl s)) (fun c=>c<+:jR 0 (bl s)) (jR 0 (bl s)).length w:=
 fun l J d W g f _ h e=>abS n i l a s j _ rfl J d W f h (show W.heap[a]? =_ by rw[g.block a b.lt];exact b) e
def JM{B:Nat}{w:aB}(h:B<w.heap.size):∀(W:aB) (l:Nat) (o a:Obj),w.heap.size<=l->W.heap[l]? =some o->o.isCells=false->o.isWalk=false->vw B W (W.putObj l a):=
 fun W l o a b _ _ _=>World.putObj_heap_other (by omega)
end
section
open Go.RowKit Go.Shelf
attribute [local go_sem] Oper.semAt_some
def hJ(r:Int):Bool:=decide (r<32)||(decide (127<=r)&&decide (r<=159))||decide (r=8232)||decide (r=8233)
def Dl(r:Int):hJ r=true↔r<32\/(127<=r/\r<=159)\/r=8232\/r=8233:=by
 unfold hJ;simp only[zJ,fH,iK];omega
def RZ(r:Int)(w:aB):Calls prog 218 #[.int .i32 r] w fun e w'=>e=.returned (.bool (hJ r))/\w=w':=by
 go_in;go_wp2;all_goals
  go_ret;refine⟨eU ?_,rfl⟩;rw[kE,Dl];simp at*
  omega
def lY(l:aM):Bool:=(iH l==0)&&(iy l).all fun r=>!hJ r
def RN(s:aJ)(w:aB)(j:s.size<=140737488351232)(h:Hid ((iH (bl s)==0)=false)):
  Calls prog 188 #[.string s] w (RG w (.bool false)):=by
 have d:∀c:aB,Gr (w.alloc (.cells #[.bool false] 4)) c->c.cell? (aD (w.heap.size) 0)=some (.bool false)/\c.frozen? (aD (w.heap.size) 0)=false:=by
  intro c f;have b:=Boxed.new w 4 (.bool false);exact⟨(f.cell (p:=⟨w.heap.size,0,none⟩) (by simp)).trans b.cell,(f.frozen (p:=⟨w.heap.size,0,none⟩) (by simp)).trans b.frozen⟩
 have g:=aA d;go_in;go_wp2_with fail;refine bA (Kr s _ j) fun c a=>?_;rw[h.out];obtain⟨i,k⟩:=g.out _ a;go_wp2_with fail;refine bI (v:=.bool false) (by simp[results,Tryz.results188,go_sem,i]) rfl ⟨rfl,?_⟩;exact(((Gr.refl w).alloc _).trans a).setCell (p:=⟨w.heap.size,0,none⟩) (aU _) _
def VW(s:aJ)(w:aB)(u:s.size<=140737488351232)(n:Nat)(Q:3<=n)(h:Hid ((iH (bl s)==0)=true))(v:List (Nat×Int))(O:Hid (jR 0 (bl s)=v)):
  CallsIn Fence.wide n prog 188 #[.string s] w (RG w (.bool (v.all fun x=>!hJ x.2))):=by
 have N:1<=n:=by omega
 refine callsIn_of_wp_marks func188 rfl eV ?_ rfl;simp only[ntmps188,bQ,dN,iJ,Nat.reduceAdd,Nat.reduceSub,xy,wZ,xj,yK,mZ,mB]
 gi_wp2_with fail
 refine⟨eV,?_⟩;refine(nJ.2 (Kr s _ u)).mono ?_;rintro e o ⟨rfl,m⟩;rw[h.out]
 gi_wp2_with fail
 refine⟨eV,?_⟩;refine(nJ.2 (MM s _)).mono ?_;rintro e R ⟨rfl,rfl⟩
 gi_wp2_with fail
 have L:Boxed (o.alloc (.cells #[.string s] 9)) w.heap.size 4 (.bool false):=by
  have b:=Boxed.new w 4 (.bool false);have J:Boxed o w.heap.size 4 (.bool false):=(ma m w.heap.size (by simp)).trans b;exact J.alloc _
 have M:=Boxed.new o 9 (.string s);have E:=m.size;simp only[yC]at E;have B:Below w.heap.size w (o.alloc (.cells #[.string s] 9)):=(((Gr.refl w).alloc _).trans m).alloc _;have g:=Ka (n-1) (by omega) o.heap.size s u _ M;rw[O.out]at g
 refine wpIn_rangeFunc_ownG rfl N (gf:=245) (lb:=#[.pointer (some ⟨o.heap.size,0,none⟩)]) rfl eV (lV func245 (by kernel_rfl) rfl)
  g LA (JM (by simp)) (tI _ _) (fun _=>rfl)
  (fun d W=>((∀p∈d,hJ p.2=false)/\Boxed W w.heap.size 4 (.bool false))/\Below w.heap.size w W)
  (fun c d W=>((c=.ret/\∃p∈d,hJ p.2=true)/\Boxed W w.heap.size 4 (.bool false))/\Below w.heap.size w W)
  (OwnFrom.and (OwnFrom.and (fun _ _ _ _ u _ _=>u) (Own.from (boxed_own w.heap.size 4 (fun _:List (Nat×Int)=>.bool false)) _)) (ownFrom_below (aU _) (by simp;omega)))
  (fun c=>OwnFrom.and (OwnFrom.and (fun _ _ _ _ u _ _=>u) (Own.from (boxed_own w.heap.size 4 (fun _:List (Nat×Int)=>.bool false)) _)) (ownFrom_below (aU _) (by simp;omega)))
  ⟨⟨(fun _ h=>by cases h),L⟩,B⟩
  (fun x=>{ tmps:=#[.string s,undef,.pointer (some ⟨w.heap.size,0,none⟩),undef,.int .i32 x.2,.string s,.bool true,.bool false,.string s,.func (.func 245) #[] #[.pointer (some ⟨o.heap.size,0,none⟩)],.int .i64 (x.1:Int),.int .i32 x.2,undef,undef],defers:=[] }) ?assign ?body ?done ?stop
 case assign=>
  intro l x W K i
  gi_wp2
  exact i
 case body=>
  rintro l d x W ⟨⟨t,a⟩,q⟩ _;have H:=a.cell;have P:=a.frozen;have G:=aA a;have I:=aA t;clear a t
  gi_wp2_with fail
  refine⟨eV,(fun _=>by omega),?_⟩;refine(CallsIn.inRound l (nJ.2 (RZ x.2 _))).mono ?_;rintro e w' ⟨rfl,rfl⟩
  cases hx:hJ x.2 with
  |true=>
   have z:=aA hx;clear hx
   gi_wp2
   exact⟨(KeepsOthers.setCell _ _ _).from _,⟨⟨rfl,x,by simp,z⟩,Boxed.set (.bool false) G⟩,q.setCell (p:=⟨w.heap.size,0,none⟩) (aU _) _⟩
  |false=>
   have z:=aA hx;clear hx
   gi_wp2
   exact⟨KeepsFrom.refl _ _,rfl,⟨fun p t=>(mf.1 t).elim (I p) (fun e=>by simp at e;subst e;exact z),G⟩,q⟩
 case done=>
  rintro D S W C rfl ⟨⟨t,a⟩,q⟩ i;have H:=a.cell;have P:=a.frozen
  gi_wp2
  have j:=(KeepsOthers.setCell W ⟨w.heap.size,0,none⟩ (.bool true)).same D _ i rfl;refine⟨by simp,.inl ⟨_,_,rfl,run_takeDeferred j,?_⟩⟩;have k:=cell_kept (EP W ⟨w.heap.size,0,none⟩ (.bool true) (by rw[H];rfl)) (grownBy_putObj' _ D (.deferred none)) (fun r e=>by cases e;exact⟨_,j,rfl⟩);refine⟨.bool true,?_,eU (gY.2 (fun x hx=>by rw[t x hx];rfl)).symm,(q.setCell (p:=⟨w.heap.size,0,none⟩) (aU _) _).trans (belowK_b (w:=w) (aU _) _ D _ _ (by simp at C;omega) j rfl rfl)⟩;simp[results,Tryz.f188,go_sem,k]
 case stop=>
  rintro D c d W C y ⟨⟨⟨rfl,x,hx,F⟩,a⟩,q⟩ i
  gi_wp2
  refine⟨by simp,.inl ⟨_,_,rfl,run_takeDeferred i,?_⟩⟩;have k:=cell_kept a.cell (grownBy_putObj' _ D (.deferred none)) (fun r e=>by cases e;exact⟨_,i,rfl⟩);refine⟨.bool false,?_,eU (ui.2 (fun h=>by have:=gY.1 h x (y.subset hx);rw[F]at this;cases this)).symm,q.trans (belowK_b (w:=w) (aU _) W D _ _ (by simp at C;omega) i rfl rfl)⟩;simp[results,Tryz.f188,go_sem,k]
def Po(l:aM):(jR 0 l).all (fun x=>!hJ x.2)=(iy l).all fun r=>!hJ r:=by
 have h:(jR 0 l).map Prod.snd=iy l:=by
  unfold jR;rw[List.map_snd_zip];rw[Fh l 0];exact aU _
 rw[<-h,v6];rfl
def N8(s:aJ)(w:aB)(a:s.size<=140737488351232):
  Calls prog 188 #[.string s] w (RG w (.bool (lY (bl s)))):=by
 cases h:(iH (bl s)==0)with
 |true=>
  have e:lY (bl s)=(jR 0 (bl s)).all (fun x=>!hJ x.2):=by unfold lY;rw[h,Po];rfl
  rw[e];exact nJ.1 (VW s w a 3 (by omega) h _ rfl)
 |false=>
  have e:lY (bl s)=false:=by unfold lY;rw[h];rfl
  rw[e];exact RN s w a h
end
end Go.Proofs.YtjfaogajmoffoaaGreatDoor
