/- Lemmas for VerifyStatus. -/
import Derived.Test.YtjfaogajmoffoaaGreatDoorQBB
set_option maxRecDepth 100000
set_option maxHeartbeats 16000000
set_option linter.all false
namespace Go.Proofs.YtjfaogajmoffoaaGreatDoor
open Go.RowKit Tryz
structure Wd where
 (a b c d e f g i:UInt32)
def rr(x n m:UInt32):UInt32:=x>>>n|||x<<<m
def rU(x:UInt32):UInt32:=rr x 7 25^^^rr x 18 14^^^x>>>3
def sw(x:UInt32):UInt32:=rr x 17 15^^^rr x 19 13^^^x>>>10
def BK(x:UInt32):UInt32:=rr x 2 30^^^rr x 13 19^^^rr x 22 10
def Bc(x:UInt32):UInt32:=rr x 6 26^^^rr x 11 21^^^rr x 25 7
def tR(v:Wd)(k w:UInt32):UInt32:=v.i+Bc v.e+(v.e&&&v.f^^^~~~v.e&&&v.g)+k+w
def uR(v:Wd):UInt32:=BK v.a+(v.a&&&v.b^^^v.a&&&v.c^^^v.b&&&v.c)
def mN(v:Wd)(k w:UInt32):Wd:=⟨tR v k w+uR v,v.a,v.b,v.c,v.d+tR v k w,v.e,v.f,v.g⟩
def mb(x y:Wd):Wd:=⟨x.a+y.a,x.b+y.b,x.c+y.c,x.d+y.d,x.e+y.e,x.f+y.f,x.g+y.g,x.i+y.i⟩
def kL:List UInt32:=[1116352408,1899447441,3049323471,3921009573,961987163,1508970993,2453635748,2870763221,3624381080,310598401,607225278,1426881987,1925078388,2162078206,2614888103,3248222580,3835390401,4022224774,264347078,604807628,770255983,1249150122,1555081692,1996064986,2554220882,2821834349,2952996808,3210313671,3336571891,3584528711,113926993,338241895,666307205,773529912,1294757372,1396182291,1695183700,1986661051,2177026350,2456956037,2730485921,2820302411,3259730800,3345764771,3516065817,3600352804,4094571909,275423344,430227734,506948616,659060556,883997877,958139571,1322822218,1537002063,1747873779,1955562222,2024104815,2227730452,2361852424,2428436474,2756734187,3204031479,3329325298]
def kV:Vector UInt32 64:=⟨kL.toArray,rfl⟩
def pn:Wd:=⟨1779033703,3144134277,1013904242,2773480762,1359893119,2600822924,528734635,1541459225⟩
def wT(m:Nat->UInt32)(t:Nat):UInt32:=
 if t<16 then m t else sw (wT m (t-2))+wT m (t-7)+rU (wT m (t-15))+wT m (t-16)
def lK(m:Nat->UInt32){t:Nat}(h:t<16):wT m t=m t:=by rw[wT,aG h]
def SK(m:Nat->UInt32)(t:Nat):wT m (t+16)=sw (wT m (t+14))+wT m (t+9)+rU (wT m (t+1))+wT m t:=by
 rw[wT,aF (by omega),show t+16-2=t+14 by omega,show t+16-7=t+9 by omega,show t+16-15=t+1 by omega,show t+16-16=t by omega]
def kN(t:Nat):UInt32:=kL.getD t 0
def rT(m:Nat->UInt32)(h:Wd):Nat->Wd
 |0=>h
 |t+1=>mN (rT m h t) (kN t) (wT m t)
def jL(m:Nat->UInt32)(h:Wd):Wd:=mb h (rT m h 64)
def AZ(p:Vector UInt32 16)(t:Nat):Vector UInt32 16:=
 if 16<=t then p.set (t%16) (p[t%16]'(qS _ (aH rfl))+(rU (p[(t-15)%16]'(qS _ (aH rfl)))+sw (p[(t-2)%16]'(qS _ (aH rfl)))+p[(t-7)%16]'(qS _ (aH rfl)))) (qS _ (aH rfl))else p
def jD(j t:Nat):Nat:=j+16*((t-1-j)/16)
def iE(m:Nat->UInt32)(t:Nat):Vector UInt32 16:=Vector.ofFn fun j:Fin 16=>wT m (jD j.val t)
def uA(m:Nat->UInt32)(t j:Nat)(h:j<16):(iE m t)[j]=wT m (jD j t):=by unfold iE;rw[El]
def R_{j:Nat}(a:j<16):jD j 0=j:=by unfold jD;omega
def XZ(m:Nat->UInt32)(v:Vector UInt32 16)(h:∀j (a:j<16),v[j]=m j):iE m 0=v:=by
 apply sB;intro j a;rw[uA _ _ _ a,R_ a,lK _ a,h j a]
def GT(m:Nat->UInt32)(t:Nat):AZ (iE m t) t=iE m (t+1):=by
 unfold AZ;split
 .rename_i h
  apply sB;intro j a;rw[Ei];split
  .rename_i e
   simp only[uA];rw[show jD (t%16) t=t-16 by unfold jD;omega,show jD ((t-15)%16) t=t-15 by unfold jD;omega,show jD ((t-2)%16) t=t-2 by unfold jD;omega,show jD ((t-7)%16) t=t-7 by unfold jD;omega,show jD j (t+1)=t by unfold jD;omega,wT.eq_def m t,aF (by omega)];generalize wT m (t-16)=p;generalize rU _=q;generalize sw _=r;generalize wT m (t-7)=s;rw[UInt32.add_comm p,UInt32.add_assoc q,UInt32.add_comm q,UInt32.add_assoc]
  .rename_i e
   rw[uA,uA,show jD j (t+1)=jD j t by unfold jD;omega]
 .apply sB;intro j a
  rw[uA,uA,show jD j (t+1)=jD j t by unfold jD;omega]
def Pe(m:Nat->UInt32)(t:Nat):(iE m (t+1))[t%16]'(qS _ (aH rfl))=wT m t:=by
 rw[uA,show jD (t%16) (t+1)=t by unfold jD;omega]
def w4(p q r s:UInt8):UInt32:=((p.toUInt32<<<8|||q.toUInt32)<<<8|||r.toUInt32)<<<8|||s.toUInt32
def el(l:aM)(j:Nat):UInt32:=w4 (l.getD (4*j) 0) (l.getD (4*j+1) 0) (l.getD (4*j+2) 0) (l.getD (4*j+3) 0)
def iT(l:aM):Nat->Wd
 |0=>pn
 |n+1=>jL (el (l.drop (64*n))) (iT l n)
def EN(l r:aM){j:Nat}(h:4*j+3<l.length):el (l++r) j=el l j:=by
 unfold el;simp only[eD];rw[oS (by omega),oS (by omega),oS (by omega),oS (by omega)]
def Tj{m m':Nat->UInt32}(h:∀j,j<16->m j=m' j)(t:Nat):wT m t=wT m' t:=by
 induction t using Nat.strongRecOn with
 |_ t a=>
  rw[wT.eq_def,wT.eq_def m'];split
  .exact h t ‹_›
  .rw[a (t-2) (by omega),a (t-7) (by omega),a (t-15) (by omega),a (t-16) (by omega)]
def Lc{m m':Nat->UInt32}(h:∀j,j<16->m j=m' j)(s:Wd)(t:Nat):rT m s t=rT m' s t:=by
 induction t with
 |zero=>rfl
 |succ t a=>unfold rT;rw[a,Tj h]
def Rb{m m':Nat->UInt32}(h:∀j,j<16->m j=m' j)(s:Wd):jL m s=jL m' s:=by unfold jL;rw[Lc h]
def JL(l r:aM)(n:Nat)(h:64*n<=l.length):iT (l++r) n=iT l n:=by
 induction n with
 |zero=>rfl
 |succ n a=>
  unfold iT;rw[a (by omega),sH (by omega)];exact Rb (fun j b=>EN _ _ (by rw[eh];omega)) _
def fN(n:Nat):Nat:=(119-n%64)%64
def mu(n:Nat):aM:=(List.range 8).map fun k=>UInt8.ofNat (8*n/2^(56-8*k))
def px(n:Nat):aM:=128::(List.replicate (fN n) 0++mu n)
def xC(n:Nat):(px n).length=fN n+9:=by simp[px,mu]
def jy(l:aM):aM:=l++px l.length
def Me(l:aM):(jy l).length%64=0:=by
 unfold jy;rw[bV,xC];unfold fN;omega
def wB(x:UInt32):aM:=[(x>>>24).toUInt8,(x>>>16).toUInt8,(x>>>8).toUInt8,x.toUInt8]
def kf(s:Wd):aM:=wB s.a++wB s.b++wB s.c++wB s.d++wB s.e++wB s.f++wB s.g++wB s.i
def yW(s:Wd):(kf s).length=32:=rfl
def f_(l:aM):aM:=kf (iT (jy l) ((jy l).length/64))
def pC(l:aM):(f_ l).length=32:=rfl
def h'(l:aM):aM:=(f_ l).take 16
def rF(l:aM):(h' l).length=16:=by unfold h';rw[dP,pC];rfl
def pw(b:aM)(j:Nat):Nat->UInt32
 |0=>0
 |k+1=>pw b j k<<<8|||(b.getD (4*j+k) 0).toUInt32
def Sp(b:aM)(j k:Nat):pw b j (k+1)=pw b j k<<<8|||(b.getD (4*j+k) 0).toUInt32:=rfl
def pw4(b:aM)(j:Nat):pw b j 4=el b j:=by
 unfold el w4;show(((((0:UInt32)<<<8|||(b.getD (4*j+0) 0).toUInt32)<<<8|||_)<<<8|||_)<<<8|||_)=_;rw[show(0:UInt32)<<<8=0 from rfl,UInt32.zero_or,ms]
def io(b:aM)(i:Nat):Vector UInt32 16:=Vector.ofFn fun j:Fin 16=>pw b j.val (min 4 (i-4*j.val))
def vK(b:aM)(i j:Nat)(h:j<16):(io b i)[j]=pw b j (min 4 (i-4*j)):=by unfold io;rw[El]
def RO(b:aM):io b 0=Vector.replicate 16 0:=by
 apply sB;intro j a;rw[vK _ _ _ a,Vector.getElem_replicate,Nat.zero_sub,Nat.min_zero];rfl
def adq(b:aM)(i:Nat)(h:i<64):(io b i).set (i/4) ((io b i)[i/4]'(by omega)<<<8|||(b.getD i 0).toUInt32) (by omega)=io b (i+1):=by
 apply sB;intro j a;rw[Ei];split
 .rename_i e
  subst e;rw[vK _ _ _ a,vK _ _ _ a,show min 4 (i+1-4*(i/4))=min 4 (i-4*(i/4))+1 by omega];rw[Sp,show 4*(i/4)+min 4 (i-4*(i/4))=i by omega]
 .rw[vK _ _ _ a,vK _ _ _ a,show min 4 (i+1-4*j)=min 4 (i-4*j) by omega]
def YT(b:aM)(j:Nat)(h:j<16):(io b 64)[j]=el b j:=by
 rw[vK _ _ _ h,show min 4 (64-4*j)=4 by omega,pw4]
def iA(s:Wd):List UInt32:=[s.a,s.b,s.c,s.d,s.e,s.f,s.g,s.i]
def zp(l:aM)(n:Nat):aM:=l.take n++List.replicate (32-n) 0
def Mg(l:aM)(n:Nat)(a:l.length=32)(h:n<=32):(zp l n).length=32:=by unfold zp;rw[bV,dP,oY];omega
def LN(l:aM)(a:l.length=32):zp l 32=l:=by unfold zp;rw[eq (by omega)];simp
def M8(l:aM)(n:Nat)(j:l.length=32)(h:n<32)(x:UInt8)(f:l[n]? =some x):(zp l n).set n x=zp l (n+1):=by
 apply rD;intro i;unfold zp;rw[List.getElem?_set];have a:(List.take n l++List.replicate (32-n) 0).length=32:=by rw[bV,dP,oY];omega
 have d:(List.take n l).length=n:=by rw[dP];omega
 have b:(List.take (n+1) l).length=n+1:=by rw[dP];omega
 rw[a];by_cases e:n=i
 .subst e
  rw[aG rfl,aG h,oS (by omega),mi,aG (by omega),f]
 .rw[aF e]
  by_cases c:i<n
  .rw[oS (by omega),oS (by omega),mi,mi,aG c,aG (by omega)]
  .rw[rR (by omega),rR (by omega),d,b,List.getElem?_replicate,List.getElem?_replicate]
   by_cases g:i<32
   .rw[aG (by omega),aG (by omega)]
   .rw[aF (by omega),aF (by omega)]
def Ki(s:Wd)(i k:Nat)(hi:i<8)(c:k<4):(kf s)[4*i+k]? =some (((iA s)[i]'hi)>>>(UInt32.ofNat (24-8*k))).toUInt8:=by
 have a:i=0\/i=1\/i=2\/i=3\/i=4\/i=5\/i=6\/i=7:=by omega
 have b:k=0\/k=1\/k=2\/k=3:=by omega
 have z:∀x:UInt32,x>>>(UInt32.ofNat (24-8*3))=x:=fun x=>by
  show x>>>(0:UInt32)=x;exact UInt32.shiftRight_zero
 rcases b with rfl|rfl|rfl|rfl<;>rcases a with rfl|rfl|rfl|rfl|rfl|rfl|rfl|rfl<;>first|rfl|(rw[z];rfl)
def mR(l:aM)(a:Wd)(blk:aM):Prop:=blk.length=64/\blk.take (l.length%64)=l.drop (64*(l.length/64))/\a=iT l (l.length/64)
def acY(blk:aM)(h:blk.length=64):mR [] pn blk:=⟨h,by simp,rfl⟩
def lN(blk:aM)(r:Nat)(c:aM):aM:=blk.take r++c++blk.drop (r+c.length)
def Fj(blk:aM)(r:Nat)(c:aM)(a:blk.length=64)(h:r+c.length<=64):(lN blk r c).length=64:=by
 unfold lN;rw[bV,bV,dP,eh];omega
def aaE(blk:aM)(r:Nat)(c:aM)(a:blk.length=64)(h:r+c.length<=64):(lN blk r c).take (r+c.length)=blk.take r++c:=by
 unfold lN;rw[us (by rw[bV,dP];omega)];exact eq (by rw[bV,dP];omega)
def ad_{l:aM}{d:Wd}{blk:aM}(h:mR l d blk)(c:aM)(i:l.length%64+c.length<64):mR (l++c) d (lN blk (l.length%64) c):=by
 obtain⟨b,f,g⟩:=h;have a:(l++c).length/64=l.length/64:=by rw[bV];omega
 have e:(l++c).length%64=l.length%64+c.length:=by rw[bV];omega
 refine⟨Fj _ _ _ b (by omega),?_,?_⟩
 .rw[e,a,aaE _ _ _ b (by omega),f,sH (by omega)]
 .rw[a,JL _ _ _ (by omega)];exact g
def Oo{l:aM}{b:Wd}{blk:aM}(h:mR l b blk)(c:aM)(j:l.length%64+c.length=64):mR (l++c) (jL (el (lN blk (l.length%64) c)) b) (lN blk (l.length%64) c):=by
 obtain⟨f,g,i⟩:=h;have a:(l++c).length/64=l.length/64+1:=by rw[bV];omega
 have d:(l++c).length%64=0:=by rw[bV];omega
 have e:lN blk (l.length%64) c=(l++c).drop (64*(l.length/64)):=by
  rw[sH (by omega),<-g];unfold lN;rw[jn (by omega),je]
 refine⟨Fj _ _ _ f (by omega),?_,?_⟩
 .rw[d,a,fy,jn (by rw[bV];omega)]
 .rw[a]
  show _=jL _ (iT (l++c) (l.length/64));rw[JL _ _ _ (by omega),<-i,<-e]
def lE(n:Nat):aM:=128::List.replicate n 0
def Mk(n:Nat):(lE n).length=n+1:=by simp[lE]
def Qk(n:Nat):lE n++[0]=lE (n+1):=by unfold lE;rw[mB,tE]
def ot(n k:Nat):aM:=(List.range k).map fun j=>UInt8.ofNat (8*n/2^(56-8*j))
def ZV(n k:Nat):ot n k++[UInt8.ofNat (8*n/2^(56-8*k))]=ot n (k+1):=by unfold ot;rw[wI,gD];rfl
def Uo(n k:Nat):(ot n k).length=k:=by simp[ot]
def UX(n:Nat):px n=lE (fN n)++ot n 8:=rfl
def acN(n j:Nat)(h:(n+(j+1))%64=56)(a:j<=fN n):j=fN n:=by unfold fN at*;omega
def ZN(n j:Nat)(h:(n+(j+1))%64≠56)(a:j<=fN n):j+1<=fN n:=by unfold fN at*;omega
def ER(n:Nat):fN n<=63:=by unfold fN;omega
def QJ{l:aM}{a:Wd}{blk:aM}(h:mR (l++px l.length) a blk):kf a=f_ l:=by
 obtain⟨_,_,b⟩:=h;unfold f_ jy;rw[b]
def pP(x n m:Nat):Nat:=Nat.lor (Nat.shiftRight x n) (Nat.mod (Nat.shiftLeft x m) 4294967296)
def yU(x:Nat):Nat:=Nat.xor (Nat.xor (pP x 7 25) (pP x 18 14)) (Nat.shiftRight x 3)
def y8(x:Nat):Nat:=Nat.xor (Nat.xor (pP x 17 15) (pP x 19 13)) (Nat.shiftRight x 10)
def yf(x:Nat):Nat:=Nat.xor (Nat.xor (pP x 2 30) (pP x 13 19)) (pP x 22 10)
def zF(x:Nat):Nat:=Nat.xor (Nat.xor (pP x 6 26) (pP x 11 21)) (pP x 25 7)
def Bp(e f g:Nat):Nat:=Nat.xor (Nat.land e f) (Nat.land (Nat.sub 4294967295 e) g)
def xa(a b c:Nat):Nat:=Nat.xor (Nat.xor (Nat.land a b) (Nat.land a c)) (Nat.land b c)
def sQ(e f g h k w:Nat):Nat:=Nat.add (Nat.add (Nat.add (Nat.add h (zF e)) (Bp e f g)) k) w
def gp(x y:Nat):Nat:=Nat.mod (Nat.add x y) 4294967296
def zi(a b c d:Nat):Nat:=Nat.mod (Nat.add (Nat.add (Nat.add (y8 d) c) (yU b)) a) 4294967296
abbrev NF:=Nat->Nat->Nat->Nat->Nat->Nat->Nat->Nat->Nat
noncomputable def Bh(u:List Nat):Nat->Nat->Nat->Nat->Nat->Nat->Nat->Nat->Nat->Nat->Nat->Nat->Nat->Nat->Nat->Nat->NF->NF:=
 List.rec (motive:=fun _=>Nat->Nat->Nat->Nat->Nat->Nat->Nat->Nat->Nat->Nat->Nat->Nat->Nat->Nat->Nat->Nat->NF->NF) (fun _ _ _ _ _ _ _ _ _ _ _ _ _ _ _ _ k a b c d e f g h=>k a b c d e f g h)
  (fun k _ r p q v w x y A B C s j l m n i o z a b c d e f g h=>(fun t=>r q v w x y A B C s j l m n i o (zi p q s i) z (gp t (Nat.add (yf a) (xa a b c))) a b c (gp d t) e f g) (sQ e f g h k p)) u
def nK:List Nat:=[1116352408,1899447441,3049323471,3921009573,961987163,1508970993,2453635748,2870763221,3624381080,310598401,607225278,1426881987,1925078388,2162078206,2614888103,3248222580,3835390401,4022224774,264347078,604807628,770255983,1249150122,1555081692,1996064986,2554220882,2821834349,2952996808,3210313671,3336571891,3584528711,113926993,338241895,666307205,773529912,1294757372,1396182291,1695183700,1986661051,2177026350,2456956037,2730485921,2820302411,3259730800,3345764771,3516065817,3600352804,4094571909,275423344,430227734,506948616,659060556,883997877,958139571,1322822218,1537002063,1747873779,1955562222,2024104815,2227730452,2361852424,2428436474,2756734187,3204031479,3329325298]
def li(x n:Nat):Nat:=Nat.mod (Nat.div x (Nat.pow 2 n)) 4294967296
def DV(a b c d e f g h:Nat):Nat:=Nat.add (Nat.mul (Nat.add (Nat.mul (Nat.add (Nat.mul (Nat.add (Nat.mul (Nat.add (Nat.mul (Nat.add (Nat.mul (Nat.add (Nat.mul (a) 4294967296) b) 4294967296) c) 4294967296) d) 4294967296) e) 4294967296) f) 4294967296) g) 4294967296) h
noncomputable def Dz(m:Nat)(r:NF):NF:=fun a b c d e f g h=>Bh nK (li m 480) (li m 448) (li m 416) (li m 384) (li m 352) (li m 320) (li m 288) (li m 256) (li m 224) (li m 192) (li m 160) (li m 128) (li m 96) (li m 64) (li m 32) (li m 0) (fun i j k l e' n o p=>r (gp a i) (gp b j) (gp c k) (gp d l) (gp e e') (gp f n) (gp g o) (gp h p)) a b c d e f g h
noncomputable def Nx(P n:Nat):NF:=Nat.rec (motive:=fun _=>NF) DV (fun n r=>Dz (Nat.mod (Nat.div P (Nat.pow 256 (Nat.mul 64 n))) (Nat.pow 256 64)) r) n
noncomputable def DF(a N:Nat):Nat:=Nx (Nat.add (Nat.mul (Nat.add (Nat.mul N 256) 128) (Nat.pow 256 (Nat.add (fN a) 8))) (Nat.mul 8 a)) (Nat.div (Nat.add (Nat.add a (fN a)) 9) 64) 1779033703 3144134277 1013904242 2773480762 1359893119 2600822924 528734635 1541459225
def qI(x n m:UInt32):(rr x n m).toNat=pP x.toNat (n.toNat%32) (m.toNat%32):=by
 unfold rr;rw[CW,xB,vP];rfl
def SD(x:UInt32):(rU x).toNat=yU x.toNat:=by
 unfold rU;rw[o_,o_,qI,qI,xB];rfl
def aaQ(x:UInt32):(sw x).toNat=y8 x.toNat:=by
 unfold sw;rw[o_,o_,qI,qI,xB];rfl
def Qg(x:UInt32):(BK x).toNat=yf x.toNat:=by
 unfold BK;rw[o_,o_,qI,qI,qI];rfl
def adU(x:UInt32):(Bc x).toNat=zF x.toNat:=by
 unfold Bc;rw[o_,o_,qI,qI,qI];rfl
def ac6(e f g:UInt32):(e&&&f^^^~~~e&&&g).toNat=Bp e.toNat f.toNat g.toNat:=by
 rw[o_,v7,v7,UInt32.toNat_not];rfl
def Yb(a b c:UInt32):(a&&&b^^^a&&&c^^^b&&&c).toNat=xa a.toNat b.toNat c.toNat:=by
 rw[o_,o_,v7,v7,v7];rfl
def Rz(a b c d:UInt32):(sw d+c+rU b+a).toNat=zi a.toNat b.toNat c.toNat d.toNat:=by
 rw[pi,pi,pi,aaQ,SD];show _=(y8 d.toNat+c.toNat+yU b.toNat+a.toNat)%4294967296;generalize y8 d.toNat=p;generalize yU b.toNat=q;omega
def MR(v:Wd)(k w:UInt32):(tR v k w).toNat=sQ v.e.toNat v.f.toNat v.g.toNat v.i.toNat k.toNat w.toNat%4294967296:=by
 unfold tR;rw[pi,pi,pi,pi,adU,ac6];show _=(v.i.toNat+zF v.e.toNat+Bp v.e.toNat v.f.toNat v.g.toNat+k.toNat+w.toNat)%4294967296;generalize zF _=p;generalize Bp _ _ _=q;omega
def V4(x y:UInt32):(x+y).toNat=gp x.toNat y.toNat:=pi x y
def adN(v:Wd)(k w:UInt32):(tR v k w+uR v).toNat=gp (sQ v.e.toNat v.f.toNat v.g.toNat v.i.toNat k.toNat w.toNat) (Nat.add (yf v.a.toNat) (xa v.a.toNat v.b.toNat v.c.toNat)):=by
 rw[pi,MR];unfold uR;rw[pi,Qg,Yb];show _=(_+(_+_))%4294967296;omega
def aco(v:Wd)(k w:UInt32):(v.d+tR v k w).toNat=gp v.d.toNat (sQ v.e.toNat v.f.toNat v.g.toNat v.i.toNat k.toNat w.toNat):=by
 rw[pi,MR];show _=(_+_)%4294967296;omega
def mV(k:NF)(s:Wd):Nat:=k s.a.toNat s.b.toNat s.c.toNat s.d.toNat s.e.toNat s.f.toNat s.g.toNat s.i.toNat
def abK(k:Nat)(s:List Nat)(p q t u v w x y A r j l m n i o:Nat)(z:NF)(a b c d e f g h:Nat):Bh (k::s) p q t u v w x y A r j l m n i o z a b c d e f g h=Bh s q t u v w x y A r j l m n i o (zi p q r i) z (gp (sQ e f g h k p) (Nat.add (yf a) (xa a b c))) a b c (gp d (sQ e f g h k p)) e f g:=rfl
def WS(k:NF)(v:Wd)(q w:UInt32):mV k (mN v q w)=k (gp (sQ v.e.toNat v.f.toNat v.g.toNat v.i.toNat q.toNat w.toNat) (Nat.add (yf v.a.toNat) (xa v.a.toNat v.b.toNat v.c.toNat))) v.a.toNat v.b.toNat v.c.toNat (gp v.d.toNat (sQ v.e.toNat v.f.toNat v.g.toNat v.i.toNat q.toNat w.toNat)) v.e.toNat v.f.toNat v.g.toNat:=by
 rw[<-adN,<-aco];rfl
def aak(m:Nat->UInt32)(t:Nat):zi (wT m t).toNat (wT m (t+1)).toNat (wT m (t+9)).toNat (wT m (t+14)).toNat=(wT m (t+16)).toNat:=by
 rw[<-Rz,SK]
def RF(m:Nat->UInt32)(s:Wd)(z:NF)(n t:Nat):mV (Bh ((List.range' t n).map fun i=>(kN i).toNat) (wT m t).toNat (wT m (t+1)).toNat (wT m (t+2)).toNat (wT m (t+3)).toNat (wT m (t+4)).toNat (wT m (t+5)).toNat (wT m (t+6)).toNat (wT m (t+7)).toNat (wT m (t+8)).toNat (wT m (t+9)).toNat (wT m (t+10)).toNat (wT m (t+11)).toNat (wT m (t+12)).toNat (wT m (t+13)).toNat (wT m (t+14)).toNat (wT m (t+15)).toNat z) (rT m s t)=mV z (rT m s (t+n)):=by
 induction n generalizing t with
 |zero=>rfl
 |succ n a=>
  rw[List.range'_succ,gt,show t+(n+1)=(t+1)+n by omega,<-a (t+1)];show _=mV _ (mN (rT m s t) (kN t) (wT m t));rw[WS];unfold mV;rw[abK,aak]
def Ui:nK=(List.range' 0 64).map fun i=>(kN i).toNat:=by decide+kernel
def aar(m:Nat->UInt32)(M:Nat)(h:∀j,j<16->(m j).toNat=li M (32*(15-j)))(s:Wd)(r:NF):mV (Dz M r) s=mV r (jL m s):=by
 have e:=RF m s (fun k l n o e' p q t=>r (gp s.a.toNat k) (gp s.b.toNat l) (gp s.c.toNat n) (gp s.d.toNat o) (gp s.e.toNat e') (gp s.f.toNat p) (gp s.g.toNat q) (gp s.i.toNat t)) 64 0;rw[<-Ui]at e;simp only[fB]at e;rw[lK m (show 0<16 by decide),h 0 (aH rfl)]at e;rw[lK m (show 1<16 by decide),h 1 (aH rfl)]at e;rw[lK m (show 2<16 by decide),h 2 (aH rfl)]at e;rw[lK m (show 3<16 by decide),h 3 (aH rfl)]at e;rw[lK m (show 4<16 by decide),h 4 (aH rfl)]at e;rw[lK m (show 5<16 by decide),h 5 (aH rfl)]at e;rw[lK m (show 6<16 by decide),h 6 (aH rfl)]at e;rw[lK m (show 7<16 by decide),h 7 (aH rfl)]at e;rw[lK m (show 8<16 by decide),h 8 (aH rfl)]at e;rw[lK m (show 9<16 by decide),h 9 (aH rfl)]at e;rw[lK m (show 10<16 by decide),h 10 (aH rfl)]at e;rw[lK m (show 11<16 by decide),h 11 (aH rfl)]at e;rw[lK m (show 12<16 by decide),h 12 (aH rfl)]at e;rw[lK m (show 13<16 by decide),h 13 (aH rfl)]at e;rw[lK m (show 14<16 by decide),h 14 (aH rfl)]at e;rw[lK m (show 15<16 by decide),h 15 (aH rfl)]at e;simp only[Nat.reduceMul,Nat.reduceSub]at e;have u:rT m s 0=s:=rfl;rw[u]at e
 have w:mV (fun k l n o e' p q t=>r (gp s.a.toNat k) (gp s.b.toNat l) (gp s.c.toNat n) (gp s.d.toNat o) (gp s.e.toNat e') (gp s.f.toNat p) (gp s.g.toNat q) (gp s.i.toNat t)) (rT m s 64)=mV r (jL m s):=by
  unfold jL;generalize rT m s 64=v;unfold mV mb;simp only[V4]
 rw[w]at e;rw[<-e];unfold mV Dz;generalize nK=x;rfl
def dX(l:aM):Nat:=l.foldl (fun a b=>a*256+b.toNat) 0
def Sc(l:aM)(a:Nat):l.foldl (fun a b=>a*256+b.toNat) a=a*256^l.length+dX l:=by
 unfold dX
 induction l generalizing a with
 |nil=>simp
 |cons x l c=>
  simp only[ml,dN];rw[c (a*256+x.toNat),c (0*256+x.toNat),qe,Be,rx,fB,xr,pm 256];omega
def lB(l r:aM):dX (l++r)=dX l*256^r.length+dX r:=by
 unfold dX;rw[ta];exact Sc r _
def EI(l:aM):dX l<256^l.length:=by
 have h:∀r:aM,dX r.reverse<256^r.length:=by
  intro r
  induction r with
  |nil=>decide
  |cons x r a=>
   rw[List.reverse_cons,lB];have:=x.toNat_lt;show dX r.reverse*256+dX [x]<256^(r.length+1);have e:dX [x]=x.toNat:=by simp[dX]
   rw[e,qe];omega
 have:=h l.reverse;rwa[List.reverse_reverse,List.length_reverse]at this
def F5(l:aM)(k n:Nat)(h:l.length=k+n):dX l/256^n=dX (l.take k)/\dX l%256^n=dX (l.drop k):=by
 have e:=lB (l.take k) (l.drop k);rw[lq,eh,h,Eu]at e;have a:=EI (l.drop k);rw[eh,h,Eu]at a;rw[e];constructor
 .rw[pm,zZ (wQ (aH rfl)),sk a,ms]
 .rw[pm,Nat.mul_add_mod,nF a]
def Na(l:aM)(i k n:Nat)(h:l.length=i+k+n):dX l/256^n%256^k=dX ((l.drop i).take k):=by
 rw[(F5 l (i+k) n h).1];have a:(l.take (i+k)).length=i+k:=by rw[dP,h];omega
 rw[(F5 _ i k a).2,BW,Eu]
def EO{l r:aM}(hl:l.length=r.length)(h:dX l=dX r):l=r:=by
 induction l generalizing r with
 |nil=>cases r with|nil=>rfl|cons _ _=>cases hl
 |cons x l j=>
  cases r with
  |nil=>cases hl
  |cons y r=>
   have c:=lB [x] l;have d:=lB [y] r;have g:dX [x]=x.toNat:=by simp[dX]
   have i:dX [y]=y.toNat:=by simp[dX]
   have a:l.length=r.length:=by simpa using hl
   rw[yV,g]at c;rw[yV,i,<-a]at d;rw[c,d]at h;have f:=EI l;have b:=EI r;rw[<-a]at b;have e:x.toNat=y.toNat:=by
    have:=ei (· /256^l.length) h;rw[pm,zZ (wQ (aH rfl)),sk f,pm,zZ (wQ (aH rfl)),sk b]at this;simpa using this
   rw[e]at h;rw[lP.1 e,j a (by omega)]
def XA(p q r s:UInt8):(w4 p q r s).toNat=dX [p,q,r,s]:=by
 have e:=p.toNat_lt;have f:=q.toNat_lt;have g:=r.toNat_lt;have a:∀(x:UInt32) (y:UInt8),x.toNat<16777216->(x<<<8|||y.toUInt32).toNat=x.toNat*256+y.toNat:=by
  intro x y h;have i:=y.toNat_lt;rw[CW,vP,Fk];show(x.toNat<<<8%4294967296)|||y.toNat=_;rw[nF (by rw[Bt];omega),Bt,pm,<-Nat.two_pow_add_eq_or_of_lt (by omega)]
 unfold w4;have d:p.toUInt32.toNat=p.toNat:=Fk p;have b:=a p.toUInt32 q (by omega);have c:=a _ r (by rw[b];omega);rw[a _ s (by rw[c,b];omega),c,b,d];simp[dX]
def ace(l:aM)(j:Nat)(h:4*j+4<=l.length):(el l j).toNat=dX ((l.drop (4*j)).take 4):=by
 have e:(l.drop (4*j)).take 4=[l.getD (4*j) 0,l.getD (4*j+1) 0,l.getD (4*j+2) 0,l.getD (4*j+3) 0]:=by
  apply rD;intro i;rw[mi];split
  .rw[kM]
   have:i=0\/i=1\/i=2\/i=3:=by omega
   simp only[eD];rcases this with rfl|rfl|rfl|rfl
   .rw[ms,cO (show 4*j<l.length by omega)];rfl
   .rw[cO (show 4*j+1<l.length by omega)];rfl
   .rw[cO (show 4*j+2<l.length by omega)];rfl
   .rw[cO (show 4*j+3<l.length by omega)];rfl
  .rw[kZ];simp;omega
 rw[e];exact XA ..
def Q7(b:aM)(a:b.length=64)(j:Nat)(c:j<16):(el b j).toNat=li (dX b) (32*(15-j)):=by
 rw[ace b j (by omega)];have h:=Na b (4*j) 4 (4*(15-j)) (by omega);rw[<-h];show _=dX b/2^(32*(15-j))%256^4;rw[show(256:Nat)=2^8 from rfl,<-Nat.pow_mul,<-xr]
def PA(l:aM)(N:Nat)(h:l.length=64*N)(n i:Nat)(d:i+n=N):mV (Nx (dX l) n) (iT l i)=mV DV (iT l N):=by
 induction n generalizing i with
 |zero=>rw[<-d];rfl
 |succ n f=>
  rw[<-f (i+1) (by omega)];have e:iT l (i+1)=jL (el (l.drop (64*i))) (iT l i):=rfl;rw[e];refine aar (el (l.drop (64*i))) _ (fun j c=>?_) _ _;have b:((l.drop (64*i)).take 64).length=64:=by rw[dP,eh];omega
  have a:el (l.drop (64*i)) j=el ((l.drop (64*i)).take 64) j:=by
   conv=>lhs;rw[<-lq 64 (l.drop (64*i))]
   exact EN _ _ (by omega)
  rw[a,Q7 _ b j c,<-Na l (64*i) 64 (64*n) (by omega)];rfl
def aa2(n:Nat):dX (List.replicate n 0)=0:=by
 induction n with
 |zero=>rfl
 |succ n a=>rw[tE,lB,a];simp[dX]
def abZ(n:Nat)(h:8*n<2^64):dX (mu n)=8*n:=by
 have e:mu n=[UInt8.ofNat (8*n/2^56),UInt8.ofNat (8*n/2^48),UInt8.ofNat (8*n/2^40),UInt8.ofNat (8*n/2^32),UInt8.ofNat (8*n/2^24),UInt8.ofNat (8*n/2^16),UInt8.ofNat (8*n/2^8),UInt8.ofNat (8*n/2^0)]:=rfl;rw[e];simp only[dX,ml,mw,p9];omega
def U6(l:aM)(h:8*l.length<2^64):dX (jy l)=(dX l*256+128)*256^(fN l.length+8)+8*l.length:=by
 have e:px l.length=[128]++(List.replicate (fN l.length) 0++mu l.length):=rfl;have c:(mu l.length).length=8:=by simp[mu]
 unfold jy;rw[e,<-fl,lB,lB l,lB,aa2,abZ _ h,bV,oY,c,rx,fB];rfl
def Pr(x:UInt32):dX (wB x)=x.toNat:=by
 have:=x.toNat_lt;simp only[wB,dX,ml,mw,UInt32.toNat_toUInt8,xB,Nat.shiftRight_eq_div_pow];show((((0*256+x.toNat/2^24%256)*256+x.toNat/2^16%256)*256+x.toNat/2^8%256)*256+x.toNat%256)=_;omega
def WK(s:Wd):dX (kf s)=mV DV s:=by
 have a:∀x,(wB x).length=4:=fun _=>rfl;unfold kf;simp only[lB,Pr,a];rfl
def Wm(k:NF)(l:aM):mV k (iT l 0)=k 1779033703 3144134277 1013904242 2773480762 1359893119 2600822924 528734635 1541459225:=rfl
def SE(l:aM)(n:Nat)(b:l.length=n)(h:8*n<2^64):dX (f_ l)=DF n (dX l):=by
 subst b;have c:=Me l;have a:(jy l).length=l.length+fN l.length+9:=by unfold jy;rw[bV,xC];omega
 unfold f_;rw[WK];have e:=PA (jy l) ((jy l).length/64) (by omega) ((jy l).length/64) 0 (by omega);rw[<-e,U6 l h,Wm,a];rfl
def Fe(l:aM)(n:Nat)(a:l.length=n)(h:8*n<2^64):dX (h' l)=Nat.div (DF n (dX l)) (Nat.pow 2 128):=by
 rw[<-SE l n a h];unfold h';rw[<-(F5 (f_ l) 16 16 (pC l)).1];show _/256^16=_/2^128;rw[show(256:Nat)=2^8 from rfl,<-Nat.pow_mul]
abbrev aK:=Vector UInt8 16
def pX(l:aM):Vector UInt8 32:=lX 32 (f_ l)
def cF(l:aM):aK:=lX 16 (h' l)
def Bn(l:aM):(pX l).toList=f_ l:=rM (pC l)
def Av(l:aM):(cF l).toList=h' l:=rM (rF l)
def wj(n:Nat):aM:=[UInt8.ofNat (n/16777216),UInt8.ofNat (n/65536),UInt8.ofNat (n/256),UInt8.ofNat n]
def gS(b:UInt8)(a:Nat):aM:=b::wj a
def qJ(b:UInt8)(a:Nat):(gS b a).length=5:=rfl
def first(c:Vector UInt8 32)(b a:Nat):aK:=cF (gS 2 b++[UInt8.ofNat a]++c.toList)
def oN(b a s:Nat)(v:aK):aK:=cF (gS 3 b++[UInt8.ofNat a,UInt8.ofNat s]++v.toList)
def fk(b a:Nat)(f:Nat):Nat->aK->aK
 |0,v=>v
 |n+1,v=>oN b a (f+n) (fk b a f n v)
def Tt(b a f m n:Nat)(v:aK):fk b a (f+m) n (fk b a f m v)=fk b a f (m+n) v:=by
 induction n with
 |zero=>rfl
 |succ n c=>
  show oN b a (f+m+n) (fk b a (f+m) n (fk b a f m v))=oN b a (f+(m+n)) (fk b a f (m+n) v);rw[c,l8]
def xW(b:UInt8):Nat:=b.toNat/16
def yB(b:UInt8):Nat:=b.toNat%16
def ek(l:aM):List Nat:=l.flatMap fun b=>[xW b,yB b]
def g_(l:List Nat):Nat:=(l.map (15- ·)).sum
def i_(l:aM):List Nat:=ek l++[g_ (ek l)/256,g_ (ek l)/16%16,g_ (ek l)%16]
def tQ(l:aM):(ek l).length=2*l.length:=by
 unfold ek
 induction l with
 |nil=>rfl
 |cons x l a=>rw[n_,bV,a];simp;omega
def acy(l:aM):∀d∈ek l,d<=15:=by
 intro d hd;unfold ek at hd;obtain⟨b,_,h⟩:=List.mem_flatMap.1 hd;have:=b.toNat_lt;simp only[pc,xF,or_false,xW,yB]at h;omega
def AP(l:List Nat):g_ l<=15*l.length:=by
 unfold g_
 induction l with
 |nil=>simp
 |cons x l a=>simp only[gt,yq,dN];omega
def uk(d:aK):(i_ d.toList).length=35:=by unfold i_;rw[bV,tQ];simp
def Sr(d:aK):∀x∈i_ d.toList,x<=15:=by
 intro x hx;unfold i_ at hx;rcases mf.1 hx with h|h
 .exact acy _ x h
 .have:=AP (ek d.toList)
  rw[tQ]at this;simp only[oU]at this;simp only[pc,xF,or_false]at h;omega
def iG(d:aK)(i:Nat):Nat:=(i_ d.toList).getD i 0
def uD(d:aK)(i:Nat):iG d i<=15:=by
 unfold iG;rw[eD];by_cases h:i<(i_ d.toList).length
 .rw[cO h];exact Sr d _ (kA h)
 .rw[kZ (by omega)];simp
def rN(a:Nat)(e:Nat->aK):aM:=gS 4 a++(List.range 35).flatMap fun i=>(e i).toList
def lA(a:Nat)(e:Nat->aK):aK:=cF (rN a e)
def Rj{a:Nat}{e e':Nat->aK}(h:∀i,i<35->e i=e' i):lA a e=lA a e':=by
 unfold lA rN;congr 2;rw[zI,zI];congr 1;apply xR;intro i hi;rw[h i (by simpa using hi)]
def lm(b:Vector UInt8 32)(a:Nat):aK:=lA a fun i=>fk a i 0 15 (first b a i)
def kI(b:Vector UInt8 32)(a:Nat)(d:aK)(i:Nat):aK:=fk a i 0 (iG d i) (first b a i)
def gF(a:Nat)(d:aK)(s:Nat->aK)(i:Nat):aK:=fk a i (iG d i) (15-iG d i) (s i)
def jB(a:Nat)(d:aK)(s:Nat->aK):aK:=lA a (gF a d s)
def Oy(b:Vector UInt8 32)(a:Nat)(d:aK):jB a d (kI b a d)=lm b a:=by
 unfold jB lm;apply Rj;intro i _;unfold gF kI;have h:=Tt a i 0 (iG d i) (15-iG d i) (first b a i);rw[fB]at h;rw[h,show iG d i+(15-iG d i)=15 by have:=uD d i;omega]
def jx(i:Nat)(b:aM):aK:=cF (gS 0 i++b)
def ia(c:Nat)(a b:aK):aK:=cF ([1,UInt8.ofNat c]++a.toList++b.toList)
def kw(b c:Nat)(a d:aK):aK×aK:=if b/2^c%2=1 then(d,a)else(a,d)
def gQ(b:Nat)(a:Nat)(c:aK):List aK->aK
 |[]=>c
 |s::l=>gQ b (a+1) (ia (a+1) (kw b a c s).1 (kw b a c s).2) l
def Kh(b:Nat)(l r:List aK)(a:Nat)(c:aK):gQ b a c (l++r)=gQ b (a+l.length) (gQ b a c l) r:=by
 induction l generalizing a c with
 |nil=>rfl
 |cons s l d=>
  show gQ b (a+1) _ (l++r)=gQ b (a+(l.length+1)) (gQ b (a+1) _ l) r;rw[d,show a+1+l.length=a+(l.length+1) by omega]
structure Sg where
 leaf:Int
 chains:Nat->aK
 path:List aK
def fd(g:Sg):Int:=if 1<=g.path.length/\g.path.length<=8/\0<=g.leaf/\g.leaf<2^g.path.length then 0 else 2
def kS(d:aK)(g:Sg):aK:=gQ g.leaf.toNat 0 (jx g.leaf.toNat (jB g.leaf.toNat d g.chains).toList) g.path
def kj(h:Int)(r:aK)(d:aK)(g:Sg):Int:=
 if ¬(1<=h/\h<=8)then 2 else if fd g≠0 then fd g else if(g.path.length:Int)≠h\/kS d g≠r then 17 else 0
def vN{n:Nat}(v:Vector UInt8 n):Nat:=dX v.toList
noncomputable def uj(a N:Nat):Nat:=DF a N/2^128
def wh(l:aM)(n:Nat)(a:l.length=n)(h:8*n<2^64):vN (cF l)=uj n (dX l):=by
 unfold vN uj;rw[Av];exact Fe l n a h
def Ws(n:Nat)(h:n<4294967296):dX (wj n)=n:=by
 simp only[wj,dX,ml,mw,p9];omega
def Iw(b:UInt8):dX [b]=b.toNat:=by simp[dX]
def Bw(t:UInt8)(n:Nat)(h:n<4294967296):dX (gS t n)=t.toNat*4294967296+n:=by
 have e:gS t n=[t]++wj n:=rfl;rw[e,lB,Iw,Ws n h,show(wj n).length=4 from rfl,show(256:Nat)^4=4294967296 by decide]
def xD(n:Nat):(256:Nat)^n=2^(8*n):=by rw[show(256:Nat)=2^8 from rfl,<-Nat.pow_mul]
noncomputable def sC(a c S:Nat):Nat:=uj 38 (((8589934592+a)*256+c)*2^256+S)
noncomputable def BA(a c s V:Nat):Nat:=uj 23 ((((12884901888+a)*256+c)*256+s)*2^128+V)
noncomputable def qF(a c f n V:Nat):Nat:=Nat.rec (motive:=fun _=>Nat) V (fun k r=>BA a c (Nat.add f k) r) n
def Ft(b:Vector UInt8 32)(a c:Nat)(d:a<4294967296)(e:c<256):vN (first b a c)=sC a c (vN b):=by
 unfold first
 rw[wh _ 38 (by simp[qJ]) (aH rfl),lB,lB,Bw _ _ d,Iw,p9,nF (show c<2^8 by omega)];simp only[oU,dN,iJ];unfold sC vN;rw[xD 32,show(2:UInt8).toNat*4294967296=8589934592 from rfl]
def Xp(a c s:Nat)(v:aK)(d:a<4294967296)(e:c<256)(f:s<256):vN (oN a c s v)=BA a c s (vN v):=by
 unfold oN;have b:dX [UInt8.ofNat c,UInt8.ofNat s]=c*256+s:=by
  simp only[dX,ml,mw,p9];omega
 rw[wh _ 23 (by simp[qJ]) (aH rfl),lB,lB,Bw _ _ d,b];simp only[oU,dN,iJ];unfold BA vN;rw[xD 16,show(3:UInt8).toNat*4294967296=12884901888 from rfl,show(12884901888+a)*256^(0+1+1)+(c*256+s)=((12884901888+a)*256+c)*256+s by omega]
def zN(a c f n:Nat)(v:aK)(d:a<4294967296)(b:c<256)(g:f+n<=256):vN (fk a c f n v)=qF a c f n (vN v):=by
 induction n with
 |zero=>rfl
 |succ n e=>
  show vN (oN a c (f+n) (fk a c f n v))=BA a c (f+n) (qF a c f n (vN v));rw[Xp _ _ _ _ d b (by omega),e (by omega)]
def BX(a:Nat)(l:List Nat):Nat:=l.foldl (fun a x=>a*2^128+x) a
def XN(p:aM)(l:List aK):dX (p++l.flatMap fun v=>v.toList)=BX (dX p) (l.map vN):=by
 induction l generalizing p with
 |nil=>simp[BX]
 |cons v l a=>
  rw[n_,<-fl,a (p++v.toList),lB];unfold BX;rw[gt,ml,oU,xD 16];rfl
noncomputable def Kv(a:Nat)(l:List Nat):Nat:=uj 565 (BX (17179869184+a) l)
def Fb(a:Nat)(e:Nat->aK)(c:a<4294967296):vN (lA a e)=Kv a ((List.range 35).map fun i=>vN (e i)):=by
 unfold lA;have b:(rN a e).length=565:=by
  have h:∀l:List Nat,(l.flatMap fun i=>(e i).toList).length=16*l.length:=by
   intro l
   induction l with
   |nil=>rfl
   |cons x l d=>rw[n_,bV,d,oU,dN];omega
  unfold rN;rw[bV,h,qJ,List.length_range]
 rw[wh _ 565 b (aH rfl)];have h:=XN (gS 4 a) ((List.range 35).map e);rw[TI,BI,Bw _ _ c]at h;unfold rN Kv;rw[h];rfl
noncomputable def Jb(i V:Nat):Nat:=uj 21 (i*2^128+V)
def Df(i:Nat)(v:aK)(hi:i<4294967296):vN (jx i v.toList)=Jb i (vN v):=by
 unfold jx;rw[wh _ 21 (by simp[qJ]) (aH rfl),lB,Bw _ _ hi,oU];unfold Jb vN;rw[xD 16,show(0:UInt8).toNat=0 from rfl,rx,fB]
noncomputable def MF(a A B:Nat):Nat:=uj 34 (((256+a)*2^128+A)*2^128+B)
def Lv(c:Nat)(a b:aK)(d:c<256):vN (ia c a b)=MF c (vN a) (vN b):=by
 unfold ia;have e:dX [1,UInt8.ofNat c]=256+c:=by
  simp only[dX,ml,mw,p9];show(0*256+1)*256+c%256=_;omega
 rw[wh _ 34 (by simp) (aH rfl),lB,lB,e,oU,oU,xD 16];unfold MF vN;rfl
def iU:Vector UInt8 32:=Vector.replicate 32 0
def FH:vN iU=0:=by decide+kernel
def abG:((List.range 35).map fun i=>qF 0 i 0 15 (sC 0 i 0))=[137674452606639747016507946164198570688,114879173214352332149486360216802441825,282283085912870896291675437228668367625,207203344015759033787175099977559484824,26073462683626429495499894190293070708,15024739426563533324224806078769039356,279072553035400115874308030305347896624,89381692337537672287770609150631324445,336499891340096790594602597248058881175,234127743672825310255349253091187408249,245576764261007624468793268307165893888,116451430104246620423630123555009618569,89271368493105611006807867720569078079,330557843401407950104851803588850710822,212067974187621227387470895343499209851,106606284100046733520111478264984026441,93135926627729634079656527578488596889,143568706721045993406463704865114260578,126944933363032030147106524762851286705,302830963525326254428574798351476842847,322877958839829416642494771680984133981,40372589858520541463207345787038697668,245739859652606372644260439260282445086,192392974288124321086842477246899989091,66502038184119912544226319151333726824,137398989183518052322500958536276874913,260799881807697803331291842663039283484,112253036939221045008225445556711566212,102540335910241411953733556540921968068,88412411263425742345011923862696188456,109446882827705218260143445270792896444,6072462622095048360945298300514874848,94201330528098189305013921935791357863,108189629633019384047167870713865157770,309885044871010594125601650929520552772]:=by decide+kernel
def VE:vN (lm iU 0)=325307255687412315925101576063388982055:=by
 unfold lm;rw[Fb _ _ (aH rfl)]
 have e:((List.range 35).map fun i=>vN (fk 0 i 0 15 (first iU 0 i)))=(List.range 35).map fun i=>qF 0 i 0 15 (sC 0 i 0):=by
  apply xR;intro i hi;rw[zN _ _ _ _ _ (aH rfl) (by have:=pS.1 hi;omega) (aH rfl),Ft _ _ _ (aH rfl) (by have:=pS.1 hi;omega),FH]
 rw[e,abG];decide+kernel
def acI:vN (jx 0 (lm iU 0).toList)=249344101126623911471779604892544382724:=by
 rw[Df _ _ (aH rfl),VE];decide+kernel
def Vv:((List.range 35).map fun i=>qF 1 i 0 15 (sC 1 i 0))=[243082683944413669231607466852562933612,87860263526753539160170077620788888177,13940305258920051495088003952717247300,310776825173707209718686332733796914643,81171077819882894840806618984548548049,136629861721914174949106460153630047938,162897938040963023417279472207292434415,62385190210232968352507043437171588804,91016013256747859266756801013617038034,83480914746419749988301143408968183511,312445601898745416866300945136853062767,335572323855099255138968637463388006323,68178263192282873149400605830490986797,250669852994078139162240783896847233924,13476108559800656981454454379759367468,340227573597653892757657463720956947542,202358331856091799712152988949323611995,17895749828982591542768928448073855739,144830165618778687459177661517092819998,117867596716275742421191073554851340789,276414322948459613408270937968771913444,185189405729835291900161178660531320969,180216588895444604594802749114596512668,52261590527260167725131813066059321892,53885394964067738873205903648865289831,174124559184778384312051824669726655579,307724624242046980916924153325742084934,149783067529106743753430828165154334294,310837316086426205416316714594601701965,236885440699137079968141273372889313451,302300835612437037588596296494257175800,198951211599226050702025245918328240707,88727856859602089589917339386823031150,316015279252003669491362542036818526854,244973146712363216147456273467565164545]:=by decide+kernel
def aaB:vN (lm iU 1)=72910166527297807819460495918498654270:=by
 unfold lm;rw[Fb _ _ (aH rfl)]
 have e:((List.range 35).map fun i=>vN (fk 1 i 0 15 (first iU 1 i)))=(List.range 35).map fun i=>qF 1 i 0 15 (sC 1 i 0):=by
  apply xR;intro i hi;rw[zN _ _ _ _ _ (aH rfl) (by have:=pS.1 hi;omega) (aH rfl),Ft _ _ _ (aH rfl) (by have:=pS.1 hi;omega),FH]
 rw[e,Vv];decide+kernel
def Kf:vN (jx 1 (lm iU 1).toList)=235161154415249726211967679416618366121:=by
 rw[Df _ _ (aH rfl),aaB];decide+kernel
def iS:aK:=ia 1 (jx 0 (lm iU 0).toList) (jx 1 (lm iU 1).toList)
def Mh:vN iS=97103775756487163360848461816480948086:=by
 unfold iS;rw[Lv _ _ _ (aH rfl),acI,Kf];decide+kernel
def Hx{n:Nat}(v:Vector UInt8 n)(l:aM)(N:Nat)(b:l.length=n)(h:vN v=N)(a:dX l=N):v.toList=l:=
 EO (by rw[oU,b]) (by rw[a,<-h];rfl)
def JO:aM:=[73,13,129,199,25,38,227,220,186,194,155,79,36,84,95,118]
def MX:iS.toList=JO:=Hx _ _ _ rfl Mh (by decide+kernel)
def kJ:aK:=cF (1::iS.toList)
def tT:aM:=[199,114,200,103,201,33,218,109,204,49,233,146,55,199,182,139]
def Vp:kJ.toList=tT:=by
 have h:vN kJ=265112357707740111388261452627854210699:=by
  unfold kJ;rw[MX,wh _ 17 rfl (aH rfl)];decide+kernel
 exact Hx _ _ _ rfl h (by decide+kernel)
def BT:aM->aM->aM->aM:=fun a s p=>
 [110,97,109,101,32,10,97,117,116,104,111,114,32]++dF a++[10,100,97,116,101,32,48,10,103,114,111,117,112,115,32,97,10,115,117,98,106,101,99,116,32]++s++[10,114,101,102,101,114,101,110,99,101,115,32,10,115,117,112,101,114,115,101,100,101,115,32,10,99,111,110,116,114,111,108,32,10,100,105,115,116,114,105,98,117,116,105,111,110,32,10,107,101,121,32,48,32]++p++[10,108,101,97,102,32,48,10,10]
def GQ:aM:=[116,101,97]
def Jf:aM:=[116,101,110]
def uB:aM:=[65,85,107,78,103,99,99,90,74,117,80,99,117,115,75,98,84,121,82,85,88,51,89,61]
def abF:qW (1::JO)=uB:=by decide+kernel
def Cr:aM:=[51,211,225,113,248,203,160,36,114,139,50,27,112,139,249,252]
def FY:aM:=[59,119,66,239,152,214,153,44,199,152,130,153,130,139,3,210]
def S3:h' (BT tT GQ uB)=Cr:=by
 refine EO ((rF _).trans rfl) ?_;rw[Fe _ 160 (by decide+kernel) (aH rfl)];decide+kernel
def abk:h' (BT tT Jf uB)=FY:=by
 refine EO ((rF _).trans rfl) ?_;rw[Fe _ 160 (by decide+kernel) (aH rfl)];decide+kernel
def FB:List Nat:=[3,3,13,3,14,1,7,1,15,8,12,11,10,0,2,4,7,2,8,11,3,2,1,11,7,0,8,11,15,9,15,12,0,15,11]
def yg:List Nat:=[3,11,7,7,4,2,14,15,9,8,13,6,9,9,2,12,12,7,9,8,8,2,9,9,8,2,8,11,0,3,13,2,0,14,14]
def RC:i_ Cr=FB:=by decide+kernel
def U7:i_ FY=yg:=by decide+kernel
def abL:((List.range 35).map fun i=>qF 0 i (yg.getD i 0) (15-yg.getD i 0) (qF 0 i 0 (FB.getD i 0) (sC 0 i 0)))=[137674452606639747016507946164198570688,188435314437058146108969052425625131955,256270735212145960380701713001226236058,135888939422087641542523194948973674497,168773098034107410904421312157192894462,78601545824819718941033505603818525075,32146582419475014055800570221872626841,15219547026834004860863101131946631599,209554293910616816117035240396947109617,234127743672825310255349253091187408249,56006201720890531779537329168492760529,118819661500472216967155741380930697305,44538294221909398098624747278706461532,187885065223683362247862771614059367131,212067974187621227387470895343499209851,289599385352793087294813307959587557393,18502297968476557450980578144187589497,289425799204352391830304995066655710234,20511305745528484421055612945212765693,28853749284874662686564332600118462919,119758088418106052009844136957532136950,40372589858520541463207345787038697668,224138372084171077582777289308514813303,246784511984218058575232576722832787010,72715123955607085393972064493733967680,196526519406443630090452126440405597063,260799881807697803331291842663039283484,112253036939221045008225445556711566212,77406523404726261462723813040895877787,162099069698572464243065396307755312783,8992412743932195892499244229510717588,52921327973730026180708717351505932139,94201330528098189305013921935791357863,301820634165535506213457730207411837136,208145309595296704736731938823874242182]:=by decide+kernel
def PL(a b:aK)(d:a.toList=Cr)(f:b.toList=FY):ia 1 (jx 0 (jB 0 b (kI iU 0 a)).toList) (jx 1 (lm iU 1).toList)≠iS:=by
 have j:vN (jB 0 b (kI iU 0 a))=167837182562510272461089175762495928352:=by
  unfold jB;rw[Fb _ _ (aH rfl)]
  have e:((List.range 35).map fun i=>vN (gF 0 b (kI iU 0 a) i))=(List.range 35).map fun i=>qF 0 i (yg.getD i 0) (15-yg.getD i 0) (qF 0 i 0 (FB.getD i 0) (sC 0 i 0)):=by
   apply xR;intro i hi;have g:=pS.1 hi;have k:=uD a i;have l:=uD b i;unfold gF kI;rw[zN _ _ _ _ _ (aH rfl) (by omega) (by omega),zN _ _ _ _ _ (aH rfl) (by omega) (by omega),Ft _ _ _ (aH rfl) (by omega),FH];unfold iG;rw[d,f,RC,U7]
  rw[e,abL];decide+kernel
 intro h;have c:=ei vN h;rw[Lv _ _ _ (aH rfl),Df _ _ (aH rfl),j,Kf,Mh]at c
 revert c
 decide+kernel
end Go.Proofs.YtjfaogajmoffoaaGreatDoor
