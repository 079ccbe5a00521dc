/- Lemmas for VerifyStatus. -/
import Derived.Test.YtjfaogajmoffoaaGreatDoorQBV
import Derived.Test.YtjfaogajmoffoaaGreatDoorQBE
set_option maxRecDepth 100000
set_option maxHeartbeats 16000000
set_option linter.all false
namespace Go.Proofs.YtjfaogajmoffoaaGreatDoor
open Go.RowKit Tryz
def nW(x:UInt32):Int:=(x.toNat:Int)
def cW(x:UInt32):Value:=.int .u32 (nW x)
def vO(x:UInt32):x.toNat<4294967296:=x.toNat_lt
@[go_sem] def afT (x y:UInt32):IntKind.u32.wrap (nW x+nW y)=nW (x+y):=by
 unfold nW;rw[Bx,pi];omega
@[go_sem] def agu (x y:UInt32):bits .and .u32 (nW x) (nW y)=nW (x&&&y):=by
 unfold nW;rw[u32_and_nat _ _ (vO x) (vO y),v7]
@[go_sem] def orW (x y:UInt32):bits .or .u32 (nW x) (nW y)=nW (x|||y):=by
 unfold nW;rw[u32_or_nat _ _ (vO x) (vO y),CW]
@[go_sem] def adY (x y:UInt32):bits .xor .u32 (nW x) (nW y)=nW (x^^^y):=by
 unfold nW;rw[u32_xor_nat _ _ (vO x) (vO y),o_]
@[go_sem] def QE (x:UInt32):bits .xor .u32 4294967295 (nW x)=nW (~~~x):=by
 have h:=adY 4294967295 x;rw[show(4294967295:UInt32)= -1 from rfl,UInt32.neg_one_xor]at h;exact h
@[go_sem] def ahI (x:UInt32):bits .xor .u32 IntKind.u32.max (nW x)=nW (~~~x):=QE x
@[go_sem] def afz:IntKind.u32.signed=false:=rfl
def vR(x:UInt32)(n:Nat)(h:n<32):nW x/2^n=nW (x>>>UInt32.ofNat n):=by
 unfold nW;rw[xB,UInt32.toNat_ofNat'];rw[nF (show n<2^32 by omega),nF h,Nat.shiftRight_eq_div_pow];simp
def xJ(x:UInt32)(n:Nat)(h:n<32):IntKind.u32.wrap (nW x*2^n)=nW (x<<<UInt32.ofNat n):=by
 unfold nW;rw[Bx,vP,UInt32.toNat_ofNat'];rw[nF (show n<2^32 by omega),nF h,Bt];simp
@[go_sem] def TW (x:UInt32):nW x/(8:Int)=nW (x>>>3):=vR x 3 (aH rfl)
@[go_sem] def Se (x:UInt32):nW x/(1024:Int)=nW (x>>>10):=vR x 10 (aH rfl)
@[go_sem] def ahn (x:UInt32):IntKind.u32.wrap (nW x*(256:Int))=nW (x<<<8):=xJ x 8 (aH rfl)
@[go_sem] def ofB (b:UInt8):IntKind.u32.wrap (b.toNat:Int)=nW b.toUInt32:=by
 have:=b.toNat_lt;unfold nW;rw[Bx,Fk];omega
def PO(x n m:UInt32):((x<<<m)|||(x>>>n))=rr x n m:=UInt32.or_comm _ _
def pA(j:Nat)(h:j<4294967296):IntKind.i64.wrap (j:Int)=(j:Int):=by rw[cV];omega
def um(t a k:Nat)(e:t=a+k)(h:t<4294967296):IntKind.i64.wrap ((t:Int)-(k:Int))=(a:Int):=by rw[cV];omega
def zE{a b:Nat}(h:a<b):(a:Int)<(b:Int):=Int.ofNat_lt.2 h
def BD(a:Nat):(0:Int)<=(a:Int):=F7 a
def Ba{a b j:Nat}(h:a%b=j):(a:Int)%(b:Int)=(j:Int):=by subst h;rfl
def AH{a b j:Nat}(h:a%b=j):(a:Int).tmod (b:Int)=(j:Int):=by subst h;rfl
def xm{a b j:Nat}(c:0<b)(h:a%b=j):j<b:=h▸qS _ c
def cI(s:Wd):bF:=[cW s.a,cW s.b,cW s.c,cW s.d,cW s.e,cW s.f,cW s.g,cW s.i]
def yH(s:Wd):cI s=(iA s).map cW:=rfl
def ik(s:Wd):(cI s).length=8:=by unfold cI;simp
def vW(p:Vector UInt32 16):bF:=p.toList.map cW
def sj(p:Vector UInt32 16):(vW p).length=16:=by simp[vW]
def IC(p:Vector UInt32 16)(j:Nat)(h:j<16):(vW p)[j]? =some (cW p[j]):=by
 unfold vW;rw[fo,qz,qB h];rfl
def I'(p:Vector UInt32 16)(j:Nat)(h:j<16)(x:UInt32):(vW p).set j (cW x)=vW (p.set j x h):=by
 unfold vW;rw[<-tX,Vector.toList_set]
def ug(s:Wd):cN (cI s)=true:=by
 rw[yH];simp only[cN,v6,gY];intro b _;rfl
def Hz(p:Vector UInt32 16):cN (vW p)=true:=by
 simp only[cN,vW,v6,gY];intro b _;rfl
@[go_sem] def agD:dZ prog 249 =true:=by kernel_rfl
@[go_sem] def afp:dZ prog 255 =true:=by kernel_rfl
@[go_sem] def afs:dZ prog 250 =true:=by kernel_rfl
@[go_sem] def aei:dZ prog 142 =true:=by kernel_rfl
@[go_sem] def afS:dZ prog 92 =true:=by kernel_rfl
@[go_sem] def aeD:dZ prog 252 =true:=by kernel_rfl
@[go_sem] def afV:prog.cellsOf 249 =8:=by kernel_rfl
@[go_sem] def afi:prog.cellsOf 255 =16:=by kernel_rfl
@[go_sem] def ahR:prog.cellsOf 250 =64:=by kernel_rfl
@[go_sem] def agW:prog.cellsOf 142 =32:=by kernel_rfl
@[go_sem] def aff:prog.cellsOf 92 =16:=by kernel_rfl
@[go_sem] def ahM:prog.cellsOf 252 =73:=by kernel_rfl
def kp:Wd:=⟨0,0,0,0,0,0,0,0⟩
def nQ:Vector UInt32 16:=Vector.replicate 16 0
def uL(l:aM):bF:=l.map cU
def dJ(l:aM):(uL l).length=l.length:=by simp[uL]
def mY(l:aM):cN (uL l)=true:=by
 simp only[cN,uL,v6,gY];intro b _;rfl
def xL(l:aM)(k:Nat)(h:k<l.length):(uL l)[k]? =some (cU l[k]):=by
 unfold uL;rw[fo,cO h];rfl
def xZ(l:aM)(k:Nat)(x:UInt8):(uL l).set k (cU x)=uL (l.set k x):=by
 unfold uL;rw[<-tX]
def uW{n:Nat}(v:Vector UInt8 n):uL v.toList=bC v:=rfl
def fP:aM:=List.replicate 32 0
def eO:aM:=List.replicate 16 0
def rh:aM:=List.replicate 64 0
def gX(a:Wd)(blk:aM)(n:Int):bF:=cI a++(uL blk++[.int .i64 n])
@[go_sem ↓ high] def af5 (w:aB):Sem.run prog (zeroValue 249) w=.ok (aE (cI kp)) w:=by kernel_rfl
@[go_sem ↓ high] def aeg (w:aB):Sem.run prog (zeroValue 255) w=.ok (aE (vW nQ)) w:=by kernel_rfl
@[go_sem ↓ high] def agz (w:aB):Sem.run prog (zeroValue 142) w=.ok (aE (uL fP)) w:=by kernel_rfl
@[go_sem ↓ high] def aet (w:aB):Sem.run prog (zeroValue 92) w=.ok (aE (uL eO)) w:=by kernel_rfl
@[go_sem ↓ high] def ae4 (w:aB):Sem.run prog (zeroValue 22) w=.ok (aE (uL eO)) w:=by kernel_rfl
@[go_sem ↓ high] def ahc (w:aB):Sem.run prog (zeroValue 252) w=.ok (aE (gX kp rh 0)) w:=by kernel_rfl
def UI(a b c d e f g h:Int)(w:aB):(Instr.build 249 #[(0,.int .u32 a),(1,.int .u32 b),(2,.int .u32 c),(3,.int .u32 d),(4,.int .u32 e),(5,.int .u32 f),(6,.int .u32 g),(7,.int .u32 h)]).run prog w=.ok (.agg #[.int .u32 a,.int .u32 b,.int .u32 c,.int .u32 d,.int .u32 e,.int .u32 f,.int .u32 g,.int .u32 h]) w:=by kernel_rfl
@[go_sem] def aez (a b c d e f g h:Int) (w:aB):eG prog 249 #[(0,.int .u32 a),(1,.int .u32 b),(2,.int .u32 c),(3,.int .u32 d),(4,.int .u32 e),(5,.int .u32 f),(6,.int .u32 g),(7,.int .u32 h)] w=.ok (.value (.agg #[.int .u32 a,.int .u32 b,.int .u32 c,.int .u32 d,.int .u32 e,.int .u32 f,.int .u32 g,.int .u32 h])) w:=fe (UI a b c d e f g h w)
def QP(a b c d e f g h:Int)(w:aB):(Instr.build 166 #[(0,.int .u32 a),(1,.int .u32 b),(2,.int .u32 c),(3,.int .u32 d),(4,.int .u32 e),(5,.int .u32 f),(6,.int .u32 g),(7,.int .u32 h)]).run prog w=.ok (.agg #[.int .u32 a,.int .u32 b,.int .u32 c,.int .u32 d,.int .u32 e,.int .u32 f,.int .u32 g,.int .u32 h]) w:=by kernel_rfl
@[go_sem] def ahw (a b c d e f g h:Int) (w:aB):eG prog 166 #[(0,.int .u32 a),(1,.int .u32 b),(2,.int .u32 c),(3,.int .u32 d),(4,.int .u32 e),(5,.int .u32 f),(6,.int .u32 g),(7,.int .u32 h)] w=.ok (.value (.agg #[.int .u32 a,.int .u32 b,.int .u32 c,.int .u32 d,.int .u32 e,.int .u32 f,.int .u32 g,.int .u32 h])) w:=fe (QP a b c d e f g h w)
def Su(k:IntKind)(n:Int):(Value.int k n).oneCell'=true:=rfl
attribute [go_sem] ik sj dJ ug Hz mY Su xg Yo
@[go_sem] def sJ:fP.length=32:=by unfold fP;simp
@[go_sem] def jf:eO.length=16:=by unfold eO;simp
@[go_sem] def TQ:rh.length=64:=by unfold rh;simp
def ZW:∀n:Fin 32,n.val≠0->bits .and .u64 (IntKind.u64.wrap (-(n.val:Int))) 31=((32-n.val:Nat):Int):=by decide+kernel
def aao(x:UInt32)(n:Nat)(d:0<n)(a:n<32)(w:aB):Calls prog 215 #[.int .u32 (nW x),.int .i64 (-(n:Int))] w fun e w'=>e=.returned (.int .u32 (nW (rr x (UInt32.ofNat n) (UInt32.ofNat (32-n)))))/\w=w':=by
 obtain⟨m,b⟩:=ex (32-n);have f:bits .and .u64 (IntKind.u64.wrap (-(n:Int))) 31=(m:Int):=by rw[<-b];exact ZW ⟨n,a⟩ (by show n≠0;omega)
 have g:IntKind.u64.wrap (32-(m:Int))=(n:Int):=by rw[ye];omega
 have h:=xJ x m (by omega);have i:=vR x n a
 have j:(m:Int)<=32:=by omega
 have k:(n:Int)<=32:=by omega
 have c:=aA (PO x (UInt32.ofNat n) (UInt32.ofNat m));rw[b];go_in;go_wp2_with fail;go_ret;exact⟨by rw[<-c.out];rfl,rfl⟩
def Uf(x:UInt32)(n:Nat)(a:0<n)(b:n<32)(w:aB):Calls prog 185 #[.int .u32 (nW x),.int .i64 (n:Int)] w fun e w'=>e=.returned (.int .u32 (nW (rr x (UInt32.ofNat n) (UInt32.ofNat (32-n)))))/\w=w':=by
 have c:=aA (aao x n a b w);have d:IntKind.i64.wrap (-(n:Int))= -(n:Int):=by rw[cV];omega
 go_in;go_wp2_with (go_at_call 215;refine dK c ?_);go_ret;exact⟨rfl,rfl⟩
def rI(x:UInt32)(n:Int):UInt32:=rr x (UInt32.ofNat n.toNat) (UInt32.ofNat (32-n.toNat))
def GY(x:UInt32)(n:Int)(w:aB)(a:0<n)(b:n<32):Calls prog 185 #[.int .u32 (nW x),.int .i64 n] w fun e w'=>e=.returned (.int .u32 (nW (rI x n)))/\w=w':=by
 obtain⟨k,rfl⟩:∃k:Nat,n=(k:Int):=⟨n.toNat,by omega⟩;exact Uf x k (by omega) (by omega) w
def NM(v:Wd)(k x:UInt32):cI (mN v k x)=[cW (tR v k x+uR v),cW v.a,cW v.b,cW v.c,cW (v.d+tR v k x),cW v.e,cW v.f,cW v.g]:=by unfold mN;rfl
def Ms(v:Wd)(k x:UInt32):tR v k x=v.i+(rI v.e 6^^^rI v.e 11^^^rI v.e 25)+(v.e&&&v.f^^^~~~v.e&&&v.g)+k+x:=by unfold tR Bc;rfl
def L9(v:Wd):uR v=(rI v.a 2^^^rI v.a 13^^^rI v.a 22)+(v.a&&&v.b^^^v.a&&&v.c^^^v.b&&&v.c):=by unfold uR BK;rfl
structure KV(W:aB)(n:Nat)(v:Wd):Prop where
 c0:W.cell? (aD n 0)=some (.int .u32 (nW v.a))
 c1:W.cell? (aD n 1)=some (.int .u32 (nW v.b))
 c2:W.cell? (aD n 2)=some (.int .u32 (nW v.c))
 c3:W.cell? (aD n 3)=some (.int .u32 (nW v.d))
 c4:W.cell? (aD n 4)=some (.int .u32 (nW v.e))
 c5:W.cell? (aD n 5)=some (.int .u32 (nW v.f))
 c6:W.cell? (aD n 6)=some (.int .u32 (nW v.g))
 c7:W.cell? (aD n 7)=some (.int .u32 (nW v.i))
def uC{W:aB}{n T:Nat}{v:Wd}(h:W.heap[n]? =some (.cells (cI v).toArray T (0,0))):KV W n v:=
 ⟨bH h 0,bH h 1,bH h 2,bH h 3,bH h 4,bH h 5,bH h 6,bH h 7⟩
def aI{w:aB}{b:Nat}{o:Obj}(h:w.heap[b]? =some o):b<w.heap.size:=(bY.1 h).1
def Qh(v:Wd)(k x:UInt32)(w:aB):Calls prog 186 #[.agg (cI v).toArray,.int .u32 (nW k),.int .u32 (nW x)] w (RG w (.agg (cI (mN v k x)).toArray)):=by
 have K:Hid (∀(x:UInt32) (n:Int) (w:aB),0<n->n<32->Calls prog 185 #[.int .u32 (nW x),.int .i64 n] w fun e w'=>e=.returned (.int .u32 (nW (rI x n)))/\w=w'):=fun x n w=>GY x n w;have M:=aA (NM v k x);have N:=aA (Ms v k x);have O:=aA (L9 v);generalize mN v k x=r at*
 generalize tR v k x=T at*
 generalize uR v=U at*
 obtain⟨n,G⟩:=ex w.heap.size;have D:Hid (HB ((w.alloc (aC (cI v) 249)).alloc (aC (cI kp) 249)) n (cI v) 249):=(((Gr.refl _).alloc _).block (by first|omega|(simp;omega))).trans (aY _ _ _ (by first|omega|(simp;omega)))
 have J:Hid (HB ((w.alloc (aC (cI v) 249)).alloc (aC (cI kp) 249)) (n+1) (cI kp) 249):=aY _ _ _ (by first|omega|(simp;omega))
 have I:Hid (Gr w ((w.alloc (aC (cI v) 249)).alloc (aC (cI kp) 249))):=((Gr.refl w).alloc _).alloc _;have L:=aA G;go_in;go_wp2_with fail;try simp only[G]
 generalize(w.alloc (aC (cI v) 249)).alloc (aC (cI kp) 249)=W0 at*
 clear G;obtain⟨q,s,t,u,y,z,B,C⟩:=uC D.out
 go_quiet ((go_at_call 185;exact tO (K _ _ _ (aH rfl) (aH rfl))))
 have i:Hid (HB (W0.drewN nq) n (cI v) 249):=D
 have p:Hid (HB (W0.drewN nq) (n+1) (cI kp) 249):=J
 have m:=aA (I.drewN nq);clear q s t u y z B C D J I;go_wp2_with fail;generalize W0.drewN nq=F at*
 obtain⟨q,s,t,u,y,z,B,C⟩:=uC i.out
 go_quiet ((go_at_call 185;exact tO (K _ _ _ (aH rfl) (aH rfl))))
 have j:Hid (HB (F.drewN nq) n (cI v) 249):=i
 have h:Hid (HB (F.drewN nq) (n+1) (cI kp) 249):=p
 have o:=aA (m.drewN nq);clear q s t u y z B C i p m;generalize F.drewN nq=P at*
 obtain⟨q,s,t,u,y,z,B,C⟩:=uC j.out;have Q:=aP h 0 8 (by simp[ik]);have R:=bE h 0 8;have H:Hid (HB (P.setCells (n+1) 0 (cI r)) (n+1) (cI r) 249):=bO h (by rw[ik,ik])
 have l:=aA (o.setsOwn (b:=n+1) (by have:=L.out;omega) (cI r) 0);have HX:cI r=[cW (T+U),cW v.a,cW v.b,cW v.c,cW (v.d+T),cW v.e,cW v.f,cW v.g]:=M;rw[N.out,O.out]at HX;unfold cW at HX;have E:Hid ((cI r).toArray=_):=ei List.toArray HX;rw[HX]at H l;clear HX j h o;go_wp2_with fail;refine bI (dY rfl _ _ (n+1) _ _ _ _ rfl H underlying249 rfl (by kernel_rfl)) rfl ?_;exact⟨by rw[E.out],l⟩
def Xg(x y:Wd)(w:aB):Calls prog 187 #[aE (cI x),aE (cI y)] w (RG w (aE (cI (mb x y)))):=by
 have h:Hid (cI (mb x y)=[cW (x.a+y.a),cW (x.b+y.b),cW (x.c+y.c),cW (x.d+y.d),cW (x.e+y.e),cW (x.f+y.f),cW (x.g+y.g),cW (x.i+y.i)]):=rfl;generalize mb x y=r at*
 obtain⟨a,b,c,d,e,f,g,i⟩:=x;obtain⟨j,k,l,m,e',n,o,p⟩:=y;unfold cI cW at*
 go_in;go_wp2_with fail;refine bI (dY rfl _ _ (w.heap.size+1+1) _ _ _ _ rfl (aY _ _ _ (by simp)) underlying249 rfl (by kernel_rfl)) rfl ?_;exact⟨by rw[h.out],((((Gr.refl w).alloc _).alloc _).alloc _)⟩
def RR(w:aB):Calls prog 151 #[] w (RG w (aE (cI pn))):=by
 go_in;go_wp2_with fail;refine bI (dY rfl _ _ w.heap.size _ _ _ _ rfl (cM w _) underlying249 rfl (by kernel_rfl)) rfl ?_;exact⟨rfl,(Gr.refl w).alloc _⟩
section
def Kt(w:aB):Prop:=∀i,i<64->w.cell? (aD 2 i)=some (cW (kN i))
def Kt.lt{w:aB}(h:Kt w):2<w.heap.size:=ka w _ (h 0 (aH rfl))
def Kt.gr{w w':aB}(h:Kt w)(a:Gr w w'):Kt w':=fun i hi=>(a.cell h.lt).trans (h i hi)
structure jQ(w:aB)(n:Nat)(h:Wd)(p:Vector UInt32 16)(v:Wd):Prop where
 h:w.heap[n]? =some (aC (cI h) 249)
 p:w.heap[n+1]? =some (aC (vW p) 255)
 r:w.heap[n+2]? =some (aC (cI kp) 249)
 v:w.heap[n+3]? =some (aC (cI v) 249)
def jQ.gr{w w':aB}{n:Nat}{h:Wd}{p:Vector UInt32 16}{v:Wd}(a:jQ w n h p v)(b:Gr w w'):jQ w' n h p v:=
 ⟨(b.block (aI a.h)).trans a.h,(b.block (aI a.p)).trans a.p,(b.block (aI a.r)).trans a.r,(b.block (aI a.v)).trans a.v⟩
def jQ.setV{w:aB}{n:Nat}{h:Wd}{p:Vector UInt32 16}{v:Wd}(a:jQ w n h p v)(b:Wd):jQ (w.setCells (n+3) 0 (cI b)) n h p b:=
 ⟨(cD (by omega) _ _ _).trans a.h,(cD (by omega) _ _ _).trans a.p,(cD (by omega) _ _ _).trans a.r,bO a.v rfl⟩
def jQ.setP{w:aB}{n:Nat}{h:Wd}{p:Vector UInt32 16}{v:Wd}(a:jQ w n h p v)(j:Nat)(b:j<16)(x:UInt32):jQ (w.setCell (aD (n+1) j) (cW x)) n h (p.set j x b) v:=
 ⟨(cG w (aD (n+1) j) n _ (by show n≠n+1;omega)).trans a.h,by rw[fC w (n+1) j _ _ _ a.p,<-I' p j b];simp,(cG w (aD (n+1) j) (n+2) _ (by show n+2≠n+1;omega)).trans a.r,(cG w (aD (n+1) j) (n+3) _ (by show n+3≠n+1;omega)).trans a.v⟩
def jQ.cell{w:aB}{n:Nat}{h:Wd}{p:Vector UInt32 16}{v:Wd}(a:jQ w n h p v)(j:Nat)(b:j<16):w.cell? (aD (n+1) j)=some (.int .u32 (nW p[j])):=(bH a.p j).trans (IC p j b)
structure Ix(e:Int)(j:Nat):Prop where
 m:e.tmod 16=(j:Int)
 r:e%16=(j:Int)
 w:IntKind.i64.wrap (j:Int)=(j:Int)
 lo:(0:Int)<=(j:Int)
 hi:(j:Int)<16
def jQ.vf{w:aB}{n:Nat}{h:Wd}{p:Vector UInt32 16}{v:Wd}(a:jQ w n h p v):hasRow w (aD (n+3) 0) 8=true/\rowAt w (aD (n+3) 0) 8=cI v/\gz w (aD (n+3) 0) 8=true/\n+3<w.heap.size:=
 ⟨aP a.v 0 8 (by simp[ik]),(bJ a.v 0 8 (by simp[ik])).trans (b_ _ _ (ik _)),bE a.v 0 8,aI a.v⟩
def jQ.hf{w:aB}{n:Nat}{h:Wd}{p:Vector UInt32 16}{v:Wd}(a:jQ w n h p v):hasRow w (aD n 0) 8=true/\rowAt w (aD n 0) 8=cI h/\n<w.heap.size:=
 ⟨aP a.h 0 8 (by simp[ik]),(bJ a.h 0 8 (by simp[ik])).trans (b_ _ _ (ik _)),aI a.h⟩
def VA(m:Nat->UInt32)(t:Nat)(h:¬16<=t):iE m t=iE m (t+1):=by
 have:=GT m t;unfold AZ at this;rw[aF h]at this;exact this
def Xi(m:Nat->UInt32)(t b e f:Nat)(h:16<=t)(n:t=b+15)(q:t=e+2)(r:t=f+7)(d a c i:Nat)(j:t%16=d)(g:b%16=a)(k:e%16=c)(l:f%16=i)(o:d<16)(p:a<16)(s:c<16)(u:i<16):
  (iE m t).set d ((iE m t)[d]+((rI (iE m t)[a] 7^^^rI (iE m t)[a] 18^^^(iE m t)[a]>>>3)+(rI (iE m t)[c] 17^^^rI (iE m t)[c] 19^^^(iE m t)[c]>>>10)+(iE m t)[i])) o=iE m (t+1):=by
 have:=GT m t;unfold AZ at this;rw[aG h]at this;subst j;subst g;subst k;subst l;obtain rfl:b=t-15:=by omega
 obtain rfl:e=t-2:=by omega
 obtain rfl:f=t-7:=by omega
 exact this
def Ml(b:Nat):∀(l:bF) (k:Nat) (w:aB),w.drew.setCells b k l=(w.setCells b k l).drew
 |[],_,_=>rfl
 |v::l,k,w=>by
  show(w.drew.setCell (aD b k) v).setCells b (k+1) l=((w.setCell (aD b k) v).setCells b (k+1) l).drew;exact Ml b l (k+1) (w.setCell (aD b k) v)
@[local go_sem ↓ high] def ahP (b:Nat) (l:bF) (k:Nat) (w:aB):w.drew.setCells b k l=(w.setCells b k l).drew:=Ml b l k w
def ac1(h:Wd)(p:Vector UInt32 16)(m:Nat->UInt32)(hm:∀j (hj:j<16),p[j]=m j)(w:aB)(hK:Kt w):Calls prog 152 #[aE (cI h),aE (vW p)] w (RG w (aE (cI (jL m h)))):=by
 have HZ:=aA (XZ m p hm);have HK:=aA hK;have ae:Hid (jL m h=mb h (rT m h 64)):=rfl;have hr:Hid (∀(x:UInt32) (n:Int) (w:aB),0<n->n<32->Calls prog 185 #[.int .u32 (nW x),.int .i64 n] w fun e w'=>e=.returned (.int .u32 (nW (rI x n)))/\w=w'):=fun x n w=>GY x n w;clear hm hK;generalize jL m h=aj at*
 obtain⟨n,hn⟩:=ex w.heap.size;have HN:=aA hn;go_in;go_wp2_with fail;have HI:Hid (jQ ((((w.alloc (aC (cI h) 249)).alloc (aC (vW p) 255)).alloc (aC (cI kp) 249)).alloc (aC (cI h) 249)) n h p h):=by
  refine⟨?_,?_,?_,?_⟩
  .exact(((((Gr.refl _).alloc _).alloc _).alloc _).block (by first|omega|(simp;omega))).trans (aY _ _ _ (by first|omega|(simp;omega)))
  .exact((((Gr.refl _).alloc _).alloc _).block (by first|omega|(simp;omega))).trans (aY _ _ _ (by first|omega|(simp;omega)))
  .exact(((Gr.refl _).alloc _).block (by first|omega|(simp;omega))).trans (aY _ _ _ (by first|omega|(simp;omega)))
  .exact aY _ _ _ (by first|omega|(simp;omega))
 have ac:Hid (Gr w ((((w.alloc (aC (cI h) 249)).alloc (aC (vW p) 255)).alloc (aC (cI kp) 249)).alloc (aC (cI h) 249))):=((((Gr.refl w).alloc _).alloc _).alloc _).alloc _;generalize(((w.alloc (aC (cI h) 249)).alloc (aC (vW p) 255)).alloc (aC (cI kp) 249)).alloc (aC (cI h) 249)=W0 at*
 try simp only[hn]
 clear hn
 go_loopw [12] (fun i wr=>∃t:Nat,t<=64/\i=.int .i64 t/\Hid (jQ wr n h (iE m t) (rT m h t))/\Hid (Gr w wr)) (fun i _=>64-(intOf i).toNat)
 .exact⟨0,bW _,rfl,by rw[HZ.out];exact HI,ac⟩
 .
  obtain⟨t,ht,rfl,z,hG⟩:=hrel;by_cases H:t<64
  .have ai:(t:Int)<64:=by omega
   have au:=nn t
   obtain⟨f,M⟩:∃j,t%16=j:=⟨_,rfl⟩;have L:=xm (aH rfl) M;have m0:((t:Int)).tmod 16=(f:Int):=by rw[<-M];rfl
   have ay:(t:Int)%16=(f:Int):=Ba M;have w0:=pA f (sR L (aH rfl));have av:=BD f;have ap:(f:Int)<16:=zE L;by_cases T:16<=t
   focus
    have ah:(16:Int)<=(t:Int):=by omega
    obtain⟨k,S⟩:∃a,t=a+15:=⟨t-15,by omega⟩;obtain⟨Z,h2⟩:∃a,t=a+2:=⟨t-2,by omega⟩;obtain⟨a7,h7⟩:∃a,t=a+7:=⟨t-7,by omega⟩;obtain⟨d,y⟩:∃j,k%16=j:=⟨_,rfl⟩;have D:=xm (aH rfl) y;have ao:IntKind.i64.wrap ((t:Int)-15)=(k:Int):=um t k 15 S (sR H (aH rfl));have az:((k:Int)).tmod 16=(d:Int):=by rw[<-y];rfl
    have an:(k:Int)%16=(d:Int):=Ba y;have b7:=pA d (sR D (aH rfl));have am:=BD d;have al:(d:Int)<16:=zE D;have a9:=z.cell d D;obtain⟨P,e2⟩:∃j,Z%16=j:=⟨_,rfl⟩;have l2:=xm (aH rfl) e2;have b8:IntKind.i64.wrap ((t:Int)-2)=(Z:Int):=um t Z 2 h2 (sR H (aH rfl));have m2:((Z:Int)).tmod 16=(P:Int):=by rw[<-e2];rfl
    have a0:(Z:Int)%16=(P:Int):=Ba e2;have w2:=pA P (sR l2 (aH rfl));have aw:=BD P;have aq:(P:Int)<16:=zE l2;have c2:=z.cell P l2;obtain⟨K,e7⟩:∃j,a7%16=j:=⟨_,rfl⟩;have l7:=xm (aH rfl) e7;have b9:IntKind.i64.wrap ((t:Int)-7)=(a7:Int):=um t a7 7 h7 (sR H (aH rfl));have m7:((a7:Int)).tmod 16=(K:Int):=by rw[<-e7];rfl
    have b5:(a7:Int)%16=(K:Int):=Ba e7;have w7:=pA K (sR l7 (aH rfl));have ax:=BD K;have ar:(K:Int)<16:=zE l7;have c7:=z.cell K l7;have R:=z.cell f L;have z1:=aI z.p;have HS:=aA (Xi m t k Z a7 T S h2 h7 f d P K M y e2 e7 L D l2 l7);have E0:=aA M;clear S h2 h7 M y e2 e7;obtain⟨c,C⟩:∃x,(iE m t)[d]'D=x:=⟨_,rfl⟩
    obtain⟨Y,X⟩:∃x,(iE m t)[P]'l2=x:=⟨_,rfl⟩
    obtain⟨x7,J⟩:∃x,(iE m t)[K]'l7=x:=⟨_,rfl⟩
    obtain⟨x0,I⟩:∃x,(iE m t)[f]'L=x:=⟨_,rfl⟩
    have O:=aA J;have B:=aA I;rw[C]at a9;rw[X]at c2;rw[J]at c7;rw[I]at R;rw[I,C,X,J]at HS;clear C X J I;go_wp2_with fail
    go_quiet (fail)
    have g:=aA (z.gr ((Gr.refl wr).drewN nq));have a5:=aA (hG.drewN nq);have a8:=g.cell f L;have aa:=g.cell K l7;rw[B.out]at a8;rw[O.out]at aa;have ak:=aI g.p;clear a9 c2 c7 R z1 z hG;generalize wr.drewN nq=V at*
    have ag:=ee g.p f;have b6:nW c/(8:Int)=nW (c>>>3):=TW c;have s2:=Se Y;go_wp2_with (go_at_call 185;refine dK (hr _ _ _ (aH rfl) (aH rfl)) ?_);refine jd 14 (fun u=>∃q:LD,u=lw V q) (by kernel_rfl) (by kernel_rfl) (oO V) ?_;simp only[gR,fy,ib,gd];repeat (go_big_quiet_step (fail))
    refine cX ?_;rintro _ ⟨q,rfl⟩;have gV:=(j' V q).1;have s:=aA (g.gr gV);have a3:=aA (a5.trans gV);clear gV a8 aa ag ak g a5;generalize lw V q=V1 at*
    have f0:=ee s.p f;have R:=s.cell f L;rw[B.out]at R;have z1:=aI s.p;have hA2:=aA (s.setP f L (x0+((rI c 7^^^rI c 18^^^c>>>3)+(rI Y 17^^^rI Y 19^^^Y>>>10)+x7)));have HG2:=aA (a3.setOwn (b:=n+1) (o:=f) (by have:=HN.out;omega) (cW (x0+((rI c 7^^^rI c 18^^^c>>>3)+(rI Y 17^^^rI Y 19^^^Y>>>10)+x7))));rw[HS.out]at hA2;unfold cW at hA2 HG2;clear s a3 HS O B;go_wp2_with fail;generalize V1.setCell _ _=U at*
    have G:=aA (HK.gr HG2);have M:=E0.out;clear f0 z1 R
   rotate_left
   focus
    have ah:¬(16:Int)<=(t:Int):=by omega
    have hA2:Hid (jQ wr n h (iE m (t+1)) (rT m h t)):=by show jQ _ _ _ _ _;rw[<-VA m t T];exact z
    have HG2:=hG;have G:=aA (HK.gr hG);clear z hG T;generalize wr=U at*
   all_goals
    have N:=hA2.out;obtain⟨b1,b2,b3,b4⟩:=N.vf;have R:U.cell? (aD (n+1) f)=some (.int .u32 (nW (wT m t))):=by
     rw[N.cell f L];subst M;rw[Pe]
    have z1:=aI N.p;have k0:U.cell? (aD 2 t)=some (.int .u32 (nW (kN t))):=G t H;have k1:=G.lt;have af:Hid (mN (rT m h t) (kN t) (wT m t)=rT m h (t+1)):=rfl;generalize kN t=kk at*
    generalize wT m t=ww at*
    generalize rT m h t=v at*
    generalize W:iE m (t+1)=p2 at*
    replace W:=aA W;clear N;go_wp2_with fail;refine jd 8 (fun u=>∃q:LD,u=lw U q) (by kernel_rfl) (by kernel_rfl) (oO U) ?_;simp only[gR,fy,ib,gd];repeat (go_big_quiet_step (fail))
    refine cX ?_;rintro _ ⟨q,rfl⟩;have gU:=(j' U q).1;have a1:=aA (hA2.gr gU);have a4:=aA (HG2.trans gU);clear gU b1 b2 b3 b4 R z1 k0 k1 hA2 HG2 G;generalize lw U q=U3 at*
    go_wp2_with fail;refine bA (Qh v kk ww U3) fun U4 l=>?_;have Q:=aA (a1.gr l);have F:=aA (a4.trans l);obtain⟨b1,b2,b3,b4⟩:=Q.out.vf;have r1:=ik (mN v kk ww);have r2:=ug (mN v kk ww);have ab:Hid (jQ (U4.setCells (n+3) 0 (cI (mN v kk ww))) n h (iE m (t+1)) (rT m h (t+1))):=by
     have hh:=Q.setV (mN v kk ww);show jQ _ _ _ _ _;rw[<-af.out,W.out];exact hh
    have ad:=aA (F.setsOwn (b:=n+3) (by have:=HN.out;omega) (cI (mN v kk ww)) 0);clear l a1 a4 Q F;go_wp2_with fail;go_roundw
    .exact⟨t+1,by omega,by go_num,ab,ad⟩
    .simp[intOf];omega
  .have ai:¬(t:Int)<64:=by omega
   obtain rfl:t=64:=by omega
   have N:=z.out;obtain⟨b1,b2,_,b4⟩:=N.vf;obtain⟨d1,d2,d4⟩:=N.hf;have a6:Hid (mb h (rT m h 64)=aj):=ae.symm;generalize rT m h 64=v at*
   generalize iE m 64=p2 at*
   have r1:=ik (mb h v);have r2:=ug (mb h v);clear N;go_wp2_with (go_at_call 187;refine bA (Xg h v wr) fun U4 l=>?_;have E:=aA (z.gr l).r;have f0:=aP E 0 8 (by simp[ik]);have f1:=bE E 0 8;have f2:=aI E;have F:=aA ((hG.trans l).setsOwn (b:=n+2) (by have:=HN.out;omega) (cI (mb h v)) 0));have HE:Hid (HB (U4.setCells (n+2) 0 (cI (mb h v))) (n+2) (cI (mb h v)) 249):=bO E (by rw[ik,ik])
   refine bI (dY rfl _ _ (n+2) _ _ _ _ rfl HE underlying249 rfl (by kernel_rfl)) rfl ?_;exact⟨by rw[a6.out],F⟩
end
def Of(l:aM)(k:Nat)(c:k<l.length)(a:l.length=64)(w:aB):(Instr.index 250 (aE (uL l)) (.int .i64 (k:Int))).run prog w=.ok (.int .u8 (l[k].toNat:Int)) w:=by
 obtain⟨v,rfl⟩:∃v:Vector UInt8 64,v.toList=l:=⟨⟨l.toArray,by simp[a]⟩,by simp⟩;have b:k<64:=a▸c;have h:=zO (n:=64) 250 underlying250 v k b w;have e:v.toList[k]=v[k]:=Vector.getElem_toList _;rw[e];exact h
def abv(l:aM):io l 0=nQ:=RO l
def Rn(l:aM)(t:l.length=64)(w:aB):Calls prog 153 #[aE (uL l)] w (RG w (aE (vW (io l 64)))):=by
 have g:=aA t;obtain⟨n,u⟩:=ex w.heap.size;have H:(uL l).length=64:=by rw[dJ,t]
 have C:Hid (HB (((w.alloc (aC (uL l) 250)).alloc (aC (vW nQ) 255)).alloc (aC (vW nQ) 255)) (n+2) (vW (io l 0)) 255):=by
  rw[abv];exact aY _ _ _ (by simp;omega)
 have D:Hid (HB (((w.alloc (aC (uL l) 250)).alloc (aC (vW nQ) 255)).alloc (aC (vW nQ) 255)) (n+1) (vW nQ) 255):=
  (((Gr.refl _).alloc _).block (by simp;omega)).trans (aY _ _ _ (by simp;omega))
 have B:Hid (Gr w (((w.alloc (aC (uL l) 250)).alloc (aC (vW nQ) 255)).alloc (aC (vW nQ) 255))):=(((Gr.refl w).alloc _).alloc _).alloc _;have v:Hid (w.heap.size=n):=u;go_in;go_wp2_with fail;generalize((w.alloc (aC (uL l) 250)).alloc (aC (vW nQ) 255)).alloc (aC (vW nQ) 255)=W0 at*
 try rw[u]
 go_loopw [7] (fun i wr=>∃k:Nat,k<=64/\i=.int .i64 k/\Hid (HB wr (n+2) (vW (io l k)) 255)/\Hid (HB wr (n+1) (vW nQ) 255)/\Hid (Gr w wr)) (fun i _=>64-(intOf i).toNat)
 .exact⟨0,bW _,rfl,C,D,B⟩
 .
  obtain⟨k,M,rfl,d,f,p⟩:=hrel;by_cases c:k<64
  .have s:(k:Int)<64:=by omega
   have E:=Of l k (by rw[g.out];exact c) g;have q:=aA (adq l k c);have m:l.getD k 0=l[k]'(by rw[g.out];exact c):=by rw[eD,cO (by rw[g.out];exact c)];rfl
   rw[m]at q;generalize l[k]'(by rw[g.out];exact c)=x at*
   obtain⟨j,r⟩:=ex (k/4);have a:j<16:=by omega
   have N:(k:Int)/4=(j:Int):=by omega
   have I:(k:Int).tdiv 4=(j:Int):=by rw[<-r];rfl
   have F:(j:Int)<16:=by omega
   have G:=nn j
   have J:IntKind.i64.wrap (j:Int)=(j:Int):=by rw[cV];omega
   have K:wr.cell? (aD (n+2) j)=some (.int .u32 (nW ((io l k)[j]'a))):=(bH d j).trans (IC _ j a)
   have L:=ee d j;have h:Hid ((io l k).set j ((io l k)[j]<<<8|||x.toUInt32) a=io l (k+1)):=by subst r;exact q
   have HW:Hid (HB (wr.setCell (aD (n+2) j) (cW ((io l k)[j]<<<8|||x.toUInt32))) (n+2) (vW (io l (k+1))) 255):=by
    show _=_;rw[fC wr (n+2) j _ _ _ d.out,<-h.out,<-I' _ j a];simp
   have HZ1:Hid (HB (wr.setCell (aD (n+2) j) (cW ((io l k)[j]<<<8|||x.toUInt32))) (n+1) (vW nQ) 255):=(cG wr (aD (n+2) j) (n+1) _ (by show n+1≠n+2;omega)).trans f
   have HG1:=aA (p.setOwn (b:=n+2) (o:=j) (by have:=v.out;omega) (cW ((io l k)[j]<<<8|||x.toUInt32)));unfold cW at HW HZ1 HG1;generalize(io l k)[j]=y at*
   go_wp2_with fail;go_roundw
   .exact⟨k+1,by omega,by go_num,HW,HZ1,HG1⟩
   .simp[intOf];omega
  .have s:¬(k:Int)<64:=by omega
   obtain rfl:k=64:=by omega
   have P:=aP d 0 16 (by simp[sj]);have O:rowAt wr (aD (n+2) 0) 16=vW (io l 64):=(bJ d 0 16 (by simp[sj])).trans (b_ _ _ (sj _));have Q:=aP f 0 16 (by simp[sj]);have R:=bE f 0 16;have S:=sj (io l 64);have T:=Hz (io l 64);have z:Hid (HB (wr.setCells (n+1) 0 (vW (io l 64))) (n+1) (vW (io l 64)) 255):=bO f (by rw[sj,sj])
   have HG1:=aA (p.setsOwn (b:=n+1) (by have:=v.out;omega) (vW (io l 64)) 0);go_wp2_with fail;refine bI (dY rfl _ _ (n+1) _ _ _ _ rfl z underlying255 rfl (by kernel_rfl)) rfl ?_;exact⟨rfl,HG1⟩
def NH(x:UInt32):IntKind.u8.wrap (nW x)=(x.toUInt8.toNat:Int):=by
 unfold nW;rw[gg,UInt32.toNat_toUInt8];omega
def Vd(s:Wd)(i:Nat)(h:i<8)(w:aB):(Instr.index 166 (.agg #[.int .u32 (nW s.a),.int .u32 (nW s.b),.int .u32 (nW s.c),.int .u32 (nW s.d),.int .u32 (nW s.e),.int .u32 (nW s.f),.int .u32 (nW s.g),.int .u32 (nW s.i)]) (.int .i64 (i:Int))).run prog w=.ok (.int .u32 (nW ((iA s)[i]'h))) w:=by
 have j:i=0\/i=1\/i=2\/i=3\/i=4\/i=5\/i=6\/i=7:=by omega
 rcases j with rfl|rfl|rfl|rfl|rfl|rfl|rfl|rfl
 .show _=Result.ok (Value.int IntKind.u32 (nW s.a)) w;kernel_rfl
 .show _=Result.ok (Value.int IntKind.u32 (nW s.b)) w;kernel_rfl
 .show _=Result.ok (Value.int IntKind.u32 (nW s.c)) w;kernel_rfl
 .show _=Result.ok (Value.int IntKind.u32 (nW s.d)) w;kernel_rfl
 .show _=Result.ok (Value.int IntKind.u32 (nW s.e)) w;kernel_rfl
 .show _=Result.ok (Value.int IntKind.u32 (nW s.f)) w;kernel_rfl
 .show _=Result.ok (Value.int IntKind.u32 (nW s.g)) w;kernel_rfl
 .show _=Result.ok (Value.int IntKind.u32 (nW s.i)) w;kernel_rfl
def acP(s:Wd)(w:aB):Calls prog 154 #[aE (cI s)] w (RG w (aE (uL (kf s)))):=by
 have z:=Vd s;have HD:Hid (∀i k,∀(hi:i<8),k<4->(kf s)[4*i+k]? =some (((iA s)[i]'hi)>>>(UInt32.ofNat (24-8*k))).toUInt8):=fun i k hi F=>Ki s i k hi F
 have E:Hid ((kf s).length=32):=yW s;generalize kf s=D at*
 obtain⟨n,V⟩:=ex w.heap.size;have R:Hid (w.heap.size=n):=V;have P:Hid (HB (((w.alloc (aC (cI s) 249)).alloc (aC (uL fP) 142)).alloc (aC (uL fP) 142)) (n+2) (uL (zp D 0)) 142):=by
  rw[show zp D 0=fP from rfl];exact aY _ _ _ (by first|omega|(simp;omega))
 have Q:Hid (HB (((w.alloc (aC (cI s) 249)).alloc (aC (uL fP) 142)).alloc (aC (uL fP) 142)) (n+1) (uL fP) 142):=
  (((Gr.refl _).alloc _).block (by first|omega|(simp;omega))).trans (aY _ _ _ (by first|omega|(simp;omega)))
 have N:Hid (HB (((w.alloc (aC (cI s) 249)).alloc (aC (uL fP) 142)).alloc (aC (uL fP) 142)) n (cI s) 249):=
  ((((Gr.refl _).alloc _).alloc _).block (by first|omega|(simp;omega))).trans (aY _ _ _ (by first|omega|(simp;omega)))
 have O:Hid (Gr w (((w.alloc (aC (cI s) 249)).alloc (aC (uL fP) 142)).alloc (aC (uL fP) 142))):=(((Gr.refl w).alloc _).alloc _).alloc _;have HW:cI s=[.int .u32 (nW s.a),.int .u32 (nW s.b),.int .u32 (nW s.c),.int .u32 (nW s.d),.int .u32 (nW s.e),.int .u32 (nW s.f),.int .u32 (nW s.g),.int .u32 (nW s.i)]:=rfl;have u:Hid (∀W:aB,HB W n (cI s) 249->KV W n s):=fun W h=>uC h
 rw[HW]at P Q N O u|-
 clear HW;go_in;go_wp2_with fail;generalize((w.alloc _).alloc _).alloc _=W0 at*
 clear N u V
 go_loopw [24] (fun i wr=>∃k:Nat,k<=8/\i=.int .i64 k/\Hid (HB wr (n+2) (uL (zp D (4*k))) 142)/\Hid (HB wr (n+1) (uL fP) 142)/\Hid (Gr w wr)) (fun i _=>8-(intOf i).toNat)
 .exact⟨0,bW _,rfl,P,Q,O⟩
 .
  obtain⟨i,hi,rfl,t,B,I⟩:=hrel;by_cases r:i<8
  .have K:(i:Int)<8:=by omega
   have a1:=z i r;have v:Hid (∀k,k<4->D[4*i+k]? =some (((iA s)[i]'r)>>>(UInt32.ofNat (24-8*k))).toUInt8):=fun k F=>HD i k r F
   generalize(iA s)[i]=x at*
   have hm:IntKind.i64.wrap (4*(i:Int))=((4*i:Nat):Int):=by rw[cV];omega
   obtain⟨b,hb⟩:=ex (4*i);rw[hb]at t v hm;have U:b+4<=32:=by omega
   clear z;go_wp2_with fail;generalize wr=a3 at*
   go_loopw [28] (fun j wr=>∃k:Nat,k<=4/\j=.int .i64 k/\Hid (HB wr (n+2) (uL (zp D (b+k))) 142)/\Hid (HB wr (n+1) (uL fP) 142)/\Hid (Gr w wr)) (fun j _=>4-(intOf j).toNat)
   .exact⟨0,bW _,rfl,t,B,I⟩
   .
    obtain⟨k,F,rfl,l,p,m⟩:=hrel;by_cases C:k<4
    .have a2:(k:Int)<4:=by omega
     obtain⟨Y,M⟩:=ex (8*k);have e1:IntKind.i64.wrap (8*(k:Int))=(Y:Int):=by rw[cV];omega
     obtain⟨q,X⟩:=ex (24-8*k);have e2:IntKind.i64.wrap (24-(Y:Int))=(q:Int):=by rw[cV];omega
     have e3:=vR x q (by omega);have q0:=nn q
     have q1:(q:Int)<=32:=by omega
     obtain⟨j,L⟩:=ex (b+k);have e4:IntKind.i64.wrap ((b:Int)+(k:Int))=(j:Int):=by rw[cV];omega
     have j0:=nn j
     have j1:(j:Int)<32:=by omega
     have j2:j<32:=by omega
     rw[L]at l;have J:=v k C;rw[L,X]at J;have e5:=NH (x>>>UInt32.ofNat q);generalize(x>>>UInt32.ofNat q).toUInt8=y at*
     have S:=aA (show (zp D j).set j y=zp D (b+(k+1)) by rw[M8 D j E.out j2 y J];congr 1;omega)
     obtain⟨Z,c0⟩:∃Z:UInt8,wr.cell? ⟨n+2,j,none⟩=some (.int .u8 (Z.toNat:Int)):=⟨_,(bH l.out j).trans (xL _ j (by rw[Mg _ _ E.out (by omega)];omega))⟩;have f0:=ee l j;have HW:Hid (HB (wr.setCell (aD (n+2) j) (cU y)) (n+2) (uL (zp D (b+(k+1)))) 142):=by
      show _=_;rw[fC wr (n+2) j _ _ _ l.out,<-S.out,<-xZ];simp
     have HZ1:Hid (HB (wr.setCell (aD (n+2) j) (cU y)) (n+1) (uL fP) 142):=(cG wr (aD (n+2) j) (n+1) _ (by show n+1≠n+2;omega)).trans p
     have HG1:=aA (m.setOwn (b:=n+2) (o:=j) (by have:=R.out;omega) (cU y));unfold cU at HW HZ1 HG1;clear J S l p m L X M;go_wp2_with fail;go_roundw
     .exact⟨k+1,by omega,by go_num,HW,HZ1,HG1⟩
     .simp[intOf];omega
    .obtain rfl:k=4:=by omega
     have H:Hid (HB wr (n+2) (uL (zp D (4*(i+1)))) 142):=by
      show _=_;rw[l.out,show b+4=4*(i+1) by omega]
     clear l;go_wp2_with fail;go_roundw
     .exact⟨i+1,by omega,by go_num,H,p,m⟩
     .simp[intOf];omega
  .have K:¬(i:Int)<8:=by omega
   obtain rfl:i=8:=by omega
   have T:zp D (4*8)=D:=LN D E;rw[T]at t;have G:(uL D).length=32:=by rw[dJ];exact E
   have r0:=aP t 0 32 (by simp[G]);have q0:rowAt wr (aD (n+2) 0) 32=uL D:=(bJ t 0 32 (by simp[G])).trans (b_ _ _ G);have r1:=aP B 0 32 (by simp[dJ,sJ]);have r2:=bE B 0 32;have r4:=mY D;have HE:Hid (HB (wr.setCells (n+1) 0 (uL D)) (n+1) (uL D) 142):=bO B (by rw[G,dJ,sJ])
   have HG1:=aA (I.setsOwn (b:=n+1) (by have:=R.out;omega) (uL D) 0);clear t B I T;go_wp2_with fail;refine bI (dY rfl _ _ (n+1) _ _ _ _ rfl HE underlying142 rfl (by kernel_rfl)) rfl ?_;exact⟨rfl,HG1⟩
def X'(w:aB){d:Array Oper}{rest:List Oper}{o:Oper}{a:Act}{Q:Exit->Act->aB->Prop}(e:o.guard=none)(s x:Operand)
  (p:o.op=.call { callee:=.builtin .copy,args:=#[s,x],argTypes:=#[94,94] }) (b k dl dc g oo sl sc:Nat) (hs:a.eval s=aR b k dl dc) (hx:a.eval x=aR g oo sl sc)
  (l:aM) (hl:l.length=Nat.min sl dl) (hsrc:cS w g oo l) (hr:hasRow w (aD b k) l.length=true) (hf:gz w (aD b k) l.length=true)
  (h:wpList prog d Q rest (a.put o.dst (.int .i64 (l.length:Int))) (w.setCells b k (uL l))):wpList prog d Q (o::rest) a w:=by
 obtain⟨i,z,f,t,m,u,B⟩:=sr;refine wpList_plain e fun K n=>?_
 have c:=run_copy_cells (P:=prog) w 94 94 o.type 5 b k dl dc (aD g oo) sl sc (uL l) underlying94 (by rw[f];simp[m]) (by rw[dJ,hl])
  (fun j v hj=>by
   unfold uL at hj;rw[fo]at hj;obtain⟨y,r,rfl⟩:=o4.1 hj;rw[fO];exact hsrc.2 j y r)
  (fun j hj=>by rw[dJ]at hj;have:=kr.1 hr j hj;rwa[fO]at this)
  (fun j hj=>by rw[dJ]at hj;have:=tJ.1 hf j hj;rwa[fO]at this)
  (fun v q=>by have:=gY.1 (mY l) v q;simpa using this)
 rw[dJ]at c;unfold Oper.wp execOp;simp only[p,resolve,invoke,builtin,nc,sA,nZ,List.map_toArray,gt,nI,hs,hx,c];exact n _ _ h
def gL(W:aB)(b:Nat)(a:Wd)(blk:aM)(n:Int):Prop:=W.heap[b]? =some (aC (gX a blk n) 252)
def rl(b:Wd)(blk:aM)(n:Int)(a:blk.length=64):(gX b blk n).length=73:=by
 unfold gX;simp[ik,dJ,a]
def Rc(b:Wd)(blk:aM)(n:Int)(a:blk.length=64):(gX b blk n)[72]? =some (.int .i64 n):=by
 unfold gX;rw[eY _ _ _ 8 rfl (aH rfl),eY _ _ _ 64 (by rw[dJ,a]) (aH rfl)];rfl
def aci(a:Wd)(blk:aM)(n:Int):dD (gX a blk n) 0 8=cI a:=by
 unfold gX;exact gP _ _ _ (ik _)
def Xf(b:Wd)(blk:aM)(n:Int)(a:blk.length=64):dD (gX b blk n) 8 64=uL blk:=by
 unfold gX;rw[eQ _ _ _ _ 8 rfl (aH rfl)];exact gP _ _ _ (by rw[dJ,a])
def gL.setN{W:aB}{b:Nat}{a:Wd}{blk:aM}{n:Int}(h:gL W b a blk n)(c:blk.length=64)(m:Int):gL (W.setCell (aD b 72) (.int .i64 m)) b a blk m:=by
 unfold gL at*
 rw[fC W b 72 _ _ _ h];have:(gX a blk n).set 72 (.int .i64 m)=gX a blk m:=by
  unfold gX;rw[pu _ _ (by rw[ik];decide),pu _ _ (by rw[dJ,c,ik];decide),dJ,c,ik];rfl
 rw[<-this];simp
def gL.setSt{W:aB}{b:Nat}{c:Wd}{blk:aM}{n:Int}(h:gL W b c blk n)(a:Wd):gL (W.setCells b 0 (cI a)) b a blk n:=by
 unfold gL gX at*
 have:=qT b 252 (uL blk++[.int .i64 n]) (cI a) [] (cI c) W rfl (by simpa using h);simpa using this
def gL.setB{W:aB}{b:Nat}{a:Wd}{blk:aM}{n:Int}(h:gL W b a blk n)(f:blk.length=64)(r:Nat)(c:aM)(g:r+c.length<=64):gL (W.setCells b (8+r) (uL c)) b a (lN blk r c) n:=by
 unfold gL at*
 have e:gX a blk n=(cI a++uL (blk.take r))++(uL ((blk.drop r).take c.length)++(uL (blk.drop (r+c.length))++[.int .i64 n])):=by
  unfold gX uL;have:blk=blk.take r++((blk.drop r).take c.length++blk.drop (r+c.length)):=by
   rw[<-nD,lq,lq]
  conv=>lhs;rw[this]
  simp
 rw[e]at h;have:=qT b 252 (uL (blk.drop (r+c.length))++[.int .i64 n]) (uL c) (cI a++uL (blk.take r)) (uL ((blk.drop r).take c.length)) W (by simp[dJ];omega) h;have d:(cI a++uL (blk.take r)).length=8+r:=by rw[bV,ik,dJ,dP];omega
 rw[d]at this;rw[this];unfold gX lN uL;simp
structure WA(W:aB)(b:Nat)(st:Wd)(blk:aM)(n:Int):Prop where
 c:W.cell? (aD b 72)=some (.int .i64 n)
 f:W.frozen? (aD b 72)=false
 h0:hasRow W (aD b 0) 8=true
 r0:rowAt W (aD b 0) 8=cI st
 f0:gz W (aD b 0) 8=true
 h1:hasRow W (aD b 8) 64=true
 r1:rowAt W (aD b 8) 64=uL blk
 z:b<W.heap.size
def gL.facts{W:aB}{b:Nat}{c:Wd}{blk:aM}{n:Int}(h:gL W b c blk n)(a:blk.length=64):WA W b c blk n:=
 ⟨(bH h 72).trans (Rc _ _ _ a),ee h 72,aP h 0 8 (by rw[rl _ _ _ a];decide),(bJ h 0 8 (by rw[rl _ _ _ a];decide)).trans (aci _ _ _),bE h 0 8,aP h 8 64 (by rw[rl _ _ _ a];decide),(bJ h 8 64 (by rw[rl _ _ _ a];decide)).trans (Xf _ _ _ a),aI h⟩
def gL.gr{W a:aB}{b:Nat}{c:Wd}{blk:aM}{n:Int}(h:gL W b c blk n)(d:Gr W a):gL a b c blk n:=(d.block (aI h)).trans h
def cS.grownV{w w':aB}{g o b:Nat}{l:aM}(h:cS w g o l)(a:w.grownBy w' (some b))(c:g≠b):cS w' g o l:=
 ⟨dQ h.1 a.size,fun j x d=>(vg (a.block g h.1 (fun e=>c (by simpa using e)))).trans (h.2 j x d)⟩
def cS.dropV{w:aB}{g o:Nat}{l:aM}(h:cS w g o l)(n:Nat):cS w g (o+n) (l.drop n):=
 ⟨h.1,fun j x a=>by rw[kM]at a;rw[l8];exact h.2 _ _ a⟩
def cS.takeV{w:aB}{g o:Nat}{l:aM}(h:cS w g o l)(n:Nat):cS w g o (l.take n):=
 ⟨h.1,fun j x hj=>h.2 _ _ (by
  rw[mi]at hj;split at hj
  .exact hj
  .cases hj)⟩
def qK{w:aB}{b:Nat}:∀(l:bF) (k:Nat) (a:aB),w.grownBy a (some b)->w.grownBy (a.setCells b k l) (some b)
 |[],_,_,h=>h
 |v::l,k,a,h=>by
  show w.grownBy ((a.setCell (aD b k) v).setCells b (k+1) l) (some b);exact qK l (k+1) _ (dG h (lG _ _ _ _))
def Kt.grown{w w':aB}{b:Nat}(h:Kt w)(c:w.grownBy w' (some b))(a:2 ≠b):Kt w':=fun i hi=>ur c (h i hi) (by simpa using td a)
def p_(W:aB)(v:Value)(l:aM)(b:Nat):Prop:=∃a c,v=.slice a l.length c/\l.length<=c/\(l=[]\/∃g o,a=some (aD g o)/\cS W g o l/\g≠b)
def p_.grown{W e:aB}{v:Value}{l:aM}{b:Nat}(h:p_ W v l b)(n:W.grownBy e (some b)):p_ e v l b:=by
 obtain⟨a,c,i,j,d⟩:=h;refine⟨a,c,i,j,?_⟩;rcases d with d|⟨g,o,k,m,f⟩
 .exact .inl d
 .exact .inr ⟨g,o,k,m.grownV n f,f⟩
def adZ(l:aM)(k q:Nat):l.take k++(l.drop k).take q=l.take (k+q):=by
 rw[List.take_add]
def Mn{w:aB}{b k q m c d:Nat}{a:dB}{l:aM}(h:l.length-k=m)(g:m<=c)(i:q<=m)(f:c=q):p_ w (.slice a (m-q) d) (l.drop (k+q)) b:=by
 have e:(l.drop (k+q)).length=m-q:=by rw[eh];omega
 refine⟨_,_,by rw[e],by rw[e];omega,.inl (fQ.1 (by rw[e];omega))⟩
def La{w:aB}{g o b c m k q:Nat}{l:aM}(a:cS w g o (l.drop k))(d:g≠b)(h:l.length-k=m)(f:m<=c)(i:q<=m):p_ w (aR g (o+q) (m-q) (c-q)) (l.drop (k+q)) b:=by
 have e:(l.drop (k+q)).length=m-q:=by rw[eh];omega
 refine⟨_,_,by rw[e],by rw[e];omega,.inr ⟨_,_,rfl,?_,d⟩⟩;rw[<-nD];exact a.dropV q
def Mf(b:Nat)(i l:aM)(v:Value)(a9:Wd)(d:aM)(w:aB)(hK:Kt w)(bb:2 ≠b)(b1:i.length+l.length<=1000000)(hB:gL w b a9 d i.length)(F:d.length=64)(hS:i≠[]->mR i a9 d)(hv:p_ w v l b):
  Calls prog 105 #[bZ b,v] w fun e w'=>e=.returned (.int .i64 0)/\(∃j blk,gL w' b j blk ((i.length+l.length:Nat):Int)/\mR (i++l) j blk)/\w.grownBy w' (some b):=by
 have HV:=aA hv;obtain⟨a0,c0,rfl,be,-⟩:=hv;have D:=hB.facts F;have C0:=D.c;have Z0:=D.z;by_cases h0:i=[];subst h0;have ap:=aA (acY d F);have ab:Hid (gL w b a9 d 0):=hB;have C1:w.cell? (aD b 72)=some (.int .i64 0):=C0;have b5:(cI pn).length=8:=rfl;have b6:=ug pn;have aj:=aA hK;clear D hB hS C0 hK;go_in;go_wp2_with (go_at_call 151;refine bA (RR w) fun N a8=>?_;have B:=aA (ab.gr a8);have F0:=(B.facts F).h0;have F1:=(B.facts F).f0;have a5:Hid (w.grownBy N (some b)):=dW a8;have am:=aA (HV.grown a5);clear a8);have HB:=aA (B.setSt pn);have HS:=ap;have HG:=aA (qK (cI pn) 0 N a5);have an:=aA (am.grown (qK (cI pn) 0 N (na N (some b))));clear HV am a5 B F0 F1 ab ap b5 b6 C1;generalize N.setCells b 0 (cI pn)=W1 at*
 have HV:=an;clear an;obtain⟨bc,az⟩:∃j,pn=j:=⟨_,rfl⟩;rw[az]at HB HS;have HB:Hid (gL W1 b bc d (([]:aM).length:Int)):=HB;generalize aw:([]:aM)=i at*
 have b7:Hid (i=[]):=aw.symm;clear aw az;rotate_left;have h1:((i.length:Int)==0)=false:=dI.2 (by have:=rd.2 h0;omega);have HS:=aA (hS h0);have HB:=aA hB;have HG:=aA (na w (some b));have aj:=aA hK;clear D hB hS h0 hK;go_in;go_wp2_with fail;clear h1;all_goals
  go_loopw [1] (fun s wr=>∃k:Nat,k<=l.length/\Hid (p_ wr s (l.drop k) b)/\Hid (∃j blk,mR (i++l.take k) j blk/\gL wr b j blk ((i.length+k:Nat):Int))/\Hid (w.grownBy wr (some b))) (fun s _=>tj s)
  .exact⟨0,bW _,HV,⟨_,d,by rw[fy,je];exact HS,HB⟩,HG⟩
  .
   obtain⟨k,hk,hV,hS,hG⟩:=hrel;obtain⟨a,c,rfl,hc,aq⟩:=hV.out;obtain⟨j,blk,hs,hb⟩:=hS.out;rw[eh]at hc|-
   obtain⟨m,hm⟩:=ex (l.length-k);rw[hm]at hc|-
   obtain⟨M,hM⟩:=ex (i.length+k);rw[hM]at hb;by_cases ba:m=0
   .subst ba
    have HE:=aA (show l.take k=l by exact eq (by omega))
    have HM:=aA (show M=i.length+l.length by omega)
    have HR:Hid (∃j blk,gL wr b j blk ((i.length+l.length:Nat):Int)/\mR (i++l) j blk):=⟨j,blk,by rw[<-HM.out];exact hb,by rw[HE.out]at hs;exact hs⟩;clear hs hb hc aq hm hM hS HM HE;go_wp2_with fail;go_ret;first|exact⟨rfl,HR,hG⟩|exact⟨rfl,(by obtain⟨x,y,h1,h2⟩:=HR;rw[b7.out]at h1 h2;exact⟨x,y,by simpa using h1,by simpa using h2⟩),hG⟩
   .have bf:(0:Int)<(m:Int):=by omega
    have a1:l.drop k≠[]:=fun e=>by have:=ei List.length e;rw[eh]at this;simp at this;omega
    rcases aq with he|⟨g,o,rfl,ar,av⟩
    .exact absurd he a1
    have E:blk.length=64:=hs.1;have D:=hb.facts E;have T:=aA (show (i++l.take k).length=M by rw[bV,dP];omega)
    obtain⟨r,hr⟩:=ex (M%64);have bd:r<64:=by omega
    have t1:(M:Int).tmod 64=(r:Int):=by rw[<-hr];rfl
    have t2:(M:Int)%64=(r:Int):=by omega
    have bm:IntKind.i64.wrap (r:Int)=(r:Int):=pA r (by omega);have r0:=nn r
    have r1:(r:Int)<=64:=by omega
    have C0:=D.c;have Z0:=D.z;have S:=aA hs;have B:=aA hb;have ac:=aA ar;have K:=aA av;have H:=aA hr;have n:=aA hm;have a6:=aA hM;clear D hs hb ar av a1 hr hS hV hm hM;go_wp2_with fail;generalize wr=N at*
    refine jd 10 (fun u=>∃q:LD,u=lw N q) (by kernel_rfl) (by kernel_rfl) (oO N) ?_;simp only[gR,fy,ib,gd];repeat (go_big_quiet_step (fail))
    refine cX ?_;rintro _ ⟨qq,rfl⟩;have g1:=(j' N qq).1;have O:=aA (B.gr g1);have I:=aA (ac.gr g1);have af:=aA (dG hG (dW g1));clear g1 B ac hG C0 Z0;generalize lw N qq=w2 at*
    obtain⟨q,hq⟩:=ex (Nat.min m (64-r));have X:q<=m:=hq▸aai _ _;have bg:q<=64-r:=hq▸Nat.min_le_right _ _;have bh:0<q:=by rw[<-hq];exact Nat.lt_min.2 ⟨by omega,by omega⟩
    obtain⟨t,V⟩:=ex ((l.drop k).take q);have W:t.length=q:=by have:=n.out;rw[<-V,dP,eh];omega
    have a2:8+r+t.length<=(gX j blk (M:Int)).length:=by rw[rl _ _ _ E];omega
    refine X' w2 rfl _ _ rfl b (8+r) (64-r) (64-r) g o m c rfl rfl t (by rw[W,hq]) (by rw[<-V];exact I.takeV q) (aP O _ _ a2) (bE O _ _) ?_;have a3:=aA (O.setB E r t (by omega));have ag:=aA (qK (uL t) (8+r) w2 af);have Z:=aA (I.grownV (qK (uL t) (8+r) w2 (na w2 (some b))) K);clear O af I a2;generalize w2.setCells b (8+r) (uL t)=w3 at*
    have G:Hid ((lN blk r t).length=64):=Fj _ _ _ E (by omega);have D:=a3.facts G;have C3:=D.c;have F3:=D.f;obtain⟨L,ao⟩:=ex (M+q);have b8:=aA (show L<=1000000 by have:=a6.out;have:=n.out;omega)
    have R:=aA ao;have ah:=aA W;have e9:IntKind.i64.wrap ((M:Int)+(q:Int))=(L:Int):=by rw[cV];have:=b8.out;omega
    have q0:=nn q
    have q1:(q:Int)<=(m:Int):=by omega
    have P:=aA (a3.setN G (L:Int));have Q:=aA (dG ag (lG w3 b 72 (.int .i64 (L:Int))));have J:=aA (Z.grownV (lG w3 b 72 (.int .i64 (L:Int))) K);have U:=aA (show i++l.take k++t=i++l.take (k+q) by rw[fl,<-V,adZ])
    rw[W];clear D ao W a3 ag Z V hq;by_cases au:c=q;all_goals
     by_cases hz:r+q=64
     .have t3:(L:Int).tmod 64=0:=by
       have h1:=H.out;have h2:=R.out;have:L%64=0:=by omega
       rw[show(L:Int).tmod 64=((L%64:Nat):Int)from rfl,this];rfl
      have a7:Hid (mR (i++l.take (k+q)) (jL (el (lN blk r t)) j) (lN blk r t)):=by
       show mR _ _ _;have h:=Oo S t (by rw[T.out,H.out,ah.out];exact hz);rw[T.out,H.out,U.out]at h;exact h
      clear S U hz;generalize lN blk r t=C at*
      go_wp2_with fail;generalize w3.setCell _ _=Y at*
      have D:=P.facts G;obtain⟨s1,s2,s3,s4,s5,s6,s7,s8⟩:=D
      have b9:=aA (YT C);have ai:=aA (aj.grown Q bb);have ak:Hid (∀p:GD,Calls prog 153 #[aE (uL C)] (gw Y p) fun e aa=>e=.returned (aE (vW (io C 64)))/\∃q:GD,aa=gw Y q):=fun p=>eE (Rn C G _);have al:Hid (∀p:GD,Calls prog 152 #[aE (cI j),aE (vW (io C 64))] (gw Y p) fun e aa=>e=.returned (aE (cI (jL (el C) j)))/\∃q:GD,aa=gw Y q):=fun p=>eE (ac1 j (io C 64) (el C) b9 _ (ai.gr (cK Y p)));refine jd 11 (fun u=>∃q:GD,u=gw Y q) (by kernel_rfl) (by kernel_rfl) (nM Y) ?_;simp only[gR,fy,ib,gd];repeat (go_big_quiet_step (first|(go_at_call 153;with_reducible exact ak.out _)|(go_at_call 152;with_reducible exact al.out _)))
      refine cX ?_;rintro _ ⟨qq,rfl⟩;have g4:=cK Y qq;have a4:=aA (P.gr g4);have b3:=aA (dG Q (dW g4));have ad:=aA (J.gr g4);clear g4 s1 s2 s3 s4 s5 s6 s7 s8 P Q J ak al ai;generalize gw Y qq=w7 at*
      have f0:=(a4.facts G).h0;have f1:=(a4.facts G).f0;have bj:=ug (jL (el C) j);have bi:=ik (jL (el C) j);have b2:=aA (a4.setSt (jL (el C) j));have b4:=aA (qK (cI (jL (el C) j)) 0 w7 b3);have ae:=aA (ad.grownV (qK (cI (jL (el C) j)) 0 w7 (na w7 (some b))) K);go_wp2_with fail;go_roundw
      .exact⟨k+q,by have:=n.out;omega,by first|exact Mn n hc X au|exact La ae K n hc X,⟨_,_,a7,by show gL _ _ _ _ ((i.length+(k+q):Nat):Int);rw[<-l8,a6.out,R.out];exact b2⟩,b4⟩
      .simp[tj];omega
     .obtain⟨r2,ax⟩:=ex (L%64)
      have ay:r2≠0:=by have h1:=H.out;have h2:=R.out;omega
      have t3:(L:Int).tmod 64=(r2:Int):=by rw[<-ax];rfl
      have t5:((r2:Int)==0)=false:=dI.2 (by omega);have a7:Hid (mR (i++l.take (k+q)) j (lN blk r t)):=by
       show mR _ _ _;have h:=ad_ S t (by rw[T.out,H.out,ah.out];omega);rw[T.out,H.out,U.out]at h;exact h
      clear S U hz ax ay;generalize lN blk r t=C at*
      go_wp2_with fail;go_roundw
      .exact⟨k+q,by have:=n.out;omega,by first|exact Mn n hc X au|exact La J K n hc X,⟨_,_,a7,by show gL _ _ _ _ ((i.length+(k+q):Nat):Int);rw[<-l8,a6.out,R.out];exact P⟩,Q⟩
      .simp[tj];omega
def aZ.bytN{w:aB}{base:Nat}{v:Value}{l:aM}(h:aZ w base v l){b:Nat}(n:v.ownBlock≠some b):p_ w v l b:=by
 by_cases f:l=[]
 .subst f
  obtain⟨_,d⟩:=h;rcases d with⟨rfl,p⟩|⟨g,a,i,rfl,_⟩
  .exact⟨none,0,rfl,aU _,.inl rfl⟩
  .exact⟨_,a,rfl,bW _,.inl rfl⟩
 .obtain⟨g,c,rfl,k,d,_,m⟩:=h.cells f
  exact⟨_,c,rfl,k,.inr ⟨g,0,rfl,⟨d,fun j x o=>m j x o⟩,fun e=>n (by rw[<-e];rfl)⟩⟩
def tV(n k:Nat):IntKind.u8.wrap ((n:Int)/2^k)=((UInt8.ofNat (n/2^k)).toNat:Int):=by
 have e:(n:Int)/2^k=((n/2^k:Nat):Int):=by simp
 rw[e,gg,p9];omega
def o7(n:Nat):IntKind.u8.wrap (n:Int)=((UInt8.ofNat n).toNat:Int):=by
 rw[gg,p9];omega
def acZ(j:Nat)(h:j<4294967296):IntKind.u64.wrap (j:Int)=(j:Int):=by rw[ye];omega
def Uc(a:Wd)(blk:aM)(n:Int):cN (gX a blk n)=true:=by
 unfold gX;simp only[iI,ug,mY,vB];rfl
def aae(b:Nat)(l:aM)(o:Wd)(blk:aM)(w:aB)(hK:Kt w)(x:l.length<=900000)(hB:gL w b o blk l.length)(d:blk.length=64)(hS:l≠[]->mR l o blk):
  Calls prog 106 #[bZ b] w (RG w (aE (uL (f_ l)))):=by
 obtain⟨n,hn⟩:=ex w.heap.size;obtain⟨N,hN⟩:=ex l.length;rw[hN]at hB x;have P:=aA hB;have B:=aA hN;have HN:=aA hn;have HZ:Hid (HB ((w.alloc (aC (uL fP) 142)).alloc (.cells #[.int .u8 128] 5)) n (uL fP) 142):=(((Gr.refl _).alloc _).block (by first|omega|(simp;omega))).trans (aY _ _ _ (by first|omega|(simp;omega)))
 have HO:Hid (aZ ((w.alloc (aC (uL fP) 142)).alloc (.cells #[.int .u8 128] 5)) (n+1) (aR (n+1) 0 1 1) (lE 0)):=aZ.made (l:=[128]) (aY _ _ _ (by first|omega|(simp;omega))) (aU _) (by simp);have aj:=aA (show n+2<=((w.alloc (aC (uL fP) 142)).alloc (.cells #[.int .u8 128] 5)).heap.size by simp;omega)
 have HG:Hid (Gr w ((w.alloc (aC (uL fP) 142)).alloc (.cells #[.int .u8 128] 5))):=((Gr.refl w).alloc _).alloc _;go_in;go_wp2_with fail;try simp only[hn]
 generalize(w.alloc (aC (uL fP) 142)).alloc (.cells #[.int .u8 128] 5)=W0 at*
 go_loopw [3] (fun s wr=>∃J:Nat,1<=J/\J-1<=fN N/\(∃a c,s=.slice a J c)/\Hid (aZ wr (n+1) s (lE (J-1)))/\Hid (HB wr n (uL fP) 142)/\Hid (n+2<=wr.heap.size)/\Hid (Gr w wr)) (fun s _=>100-tj s)
 .exact⟨1,aU _,bW _,⟨_,_,rfl⟩,HO,HZ,aj,HG⟩
 .
  obtain⟨J,am,a2,⟨a,c,rfl⟩,hO,hZ,F,hG⟩:=hrel;have an:J<=64:=by have:=ER N;omega
  have hf:=(P.gr hG).facts d;have C0:=hf.c;obtain⟨S,a4⟩:=ex (N+J);have e1:IntKind.i64.wrap ((N:Int)+(J:Int))=(S:Int):=by rw[cV];omega
  obtain⟨r,hr⟩:=ex (S%64);have e2:(S:Int).tmod 64=(r:Int):=by rw[<-hr];rfl
  by_cases u:r=56
  .have HJ:Hid (J-1=fN N):=acN N (J-1) (by omega) a2
   have q0:((r:Int)==56)=true:=by rw[u];rfl
   have q1:((r:Int) != 56)=false:=by rw[u];rfl
   obtain⟨C,hC⟩:=ex (8*N);have e4:IntKind.u64.wrap (N:Int)=(N:Int):=acZ N (by omega);have e5:IntKind.u64.wrap (8*(N:Int))=(C:Int):=by rw[ye];omega
   have HC:=aA hC;have ah:Hid (aZ wr (n+1) (.slice a J c) (lE (fN N)++ot N 0)):=by show aZ _ _ _ _;rw[<-HJ.out];simpa[ot]using hO.out
   have U:=aA (show J=fN N+1+0 by have:=HJ.out;omega)
   go_wp2_with fail;generalize wr=W1 at*
   go_loopw [3,29] (fun s i wr=>∃k:Nat,k<=8/\i=.int .i64 k/\(∃a c,s=.slice a (J+k) c)/\Hid (aZ wr (n+1) s (lE (fN N)++ot N k))/\Hid (HB wr n (uL fP) 142)/\Hid (n+2<=wr.heap.size)/\Hid (Gr w wr)) (fun _ i _=>8-(intOf i).toNat)
   .exact⟨0,bW _,rfl,⟨_,_,rfl⟩,ah,hZ,F,hG⟩
   .
    obtain⟨k,M,rfl,⟨a1,c1,rfl⟩,v,a5,f,t⟩:=hrel;by_cases aq:k<8
    .have ap:(k:Int)<8:=by omega
     obtain⟨kk,a8⟩:=ex (8*k);have e6:IntKind.i64.wrap (8*(k:Int))=(kk:Int):=by rw[cV];omega
     obtain⟨q,hq⟩:=ex (56-kk);have e7:IntKind.i64.wrap (56-(kk:Int))=(q:Int):=by rw[cV];omega
     have q0:=nn q
     have q2:(q:Int)<=64:=by omega
     have e8:=tV C q;obtain⟨y,hy⟩:=ex (UInt8.ofNat (C/2^q));rw[hy]at e8;have HP:=aA (show lE (fN N)++ot N k++[y]=lE (fN N)++ot N (k+1) by rw[fl,<-hy,<-HC.out,<-hq,<-a8,ZV])
     obtain⟨m,O⟩:=ex (J+k);rw[O]at v|-
     have HL:=aA (show (lE (fN N)++ot N k).length+1=m+1 by rw[bV,Mk,Uo];have:=U.out;omega)
     have L:n+1<=wr.heap.size:=by have:=f.out;omega
     have E:=aA (v.gr ((Gr.refl wr).alloc (.cells #[.int .u8 (y.toNat:Int)] 5)));have O8:Hid (aZ (wr.alloc (.cells #[.int .u8 (y.toNat:Int)] 5)) (n+1) (aR (wr.heap.size) 0 1 1) [y]):=aZ.made (l:=[y]) (cM wr _) L (by simp);have z7:n+1<=(wr.alloc (.cells #[.int .u8 (y.toNat:Int)] 5)).heap.size:=by simp;omega
     have H:m+1<=1000000:=by have:=U.out;have:=ER N;omega
     have p:=aA (t.alloc (.cells #[.int .u8 (y.toNat:Int)] 5));have D:=aA ((((Gr.refl wr).alloc (.cells #[.int .u8 (y.toNat:Int)] 5)).block (show n<wr.heap.size by omega)).trans a5);have ae:=aA O;go_wp2_with (at_builtin;refine pp _ rfl _ _ rfl (n+1) (.slice a1 m c1) (lE (fN N)++ot N k) (by simp[Act.eval]) E (aR (wr.heap.size) 0 1 1) [y] (by simp[Act.eval]) O8 (m+1) HL H z7 ?_;intro a3 n3 w3 I g);go_roundw
     .exact⟨k+1,by omega,by go_num,⟨a3,n3,by rw[<-ae.out,l8]⟩,by rw[<-HP.out];exact I,eH g D (fun e=>by have:=(fA E n e).1;omega),eu (by have:=f.out;simp;omega) g.size,p.grown g (fun k M=>by have:=(fA E k M).1;have:=HN.out;omega)⟩
     .simp[intOf];omega
    .obtain rfl:k=8:=by omega
     have X:Hid (aZ wr (n+1) (.slice a1 (J+8) c1) (px N)):=by rw[UX];exact v
     have R:=aA (P.gr t);have r0:=aP R 0 73 (by rw[rl _ _ _ d];decide);have r1:rowAt wr (aD b 0) 73=gX o blk N:=(bJ R 0 73 (by rw[rl _ _ _ d];decide)).trans (b_ _ _ (rl _ _ _ d));have r2:=rl o blk N d;have r3:=Uc o blk N;have r5:(gX kp rh 0).length=73:=rfl;obtain⟨m,O⟩:=ex wr.heap.size;have af:=aA O;have HA:=aA ((Gr.refl wr).alloc (aC (gX o blk N) 252));have Q:Hid (gL (wr.alloc (aC (gX o blk N) 252)) m o blk (l.length:Int)):=by
      show gL _ _ _ _ _;rw[B.out];exact aY _ _ _ O.symm
     have V:Hid (Kt (wr.alloc (aC (gX o blk N) 252))):=(hK.gr t).gr HA;have Y:Hid (p_ (wr.alloc (aC (gX o blk N) 252)) (.slice a1 (J+8) c1) (px N) m):=(X.gr HA).bytN (fun e=>by have:=(fA X m e).2;omega);have a9:2 ≠m:=fun e=>by have:=(hK.gr t).lt;omega
     have aa:l.length+(px N).length<=1000000:=by have:=B.out;have:=ER N;rw[xC];omega
     have ag:Hid (HB (wr.alloc (aC (gX o blk N) 252)) n (uL fP) 142):=(HA.block (by have:=f.out;omega)).trans a5
     have ab:=aA (t.trans HA);have T:=Mf m l (px N) (.slice a1 (J+8) c1) o blk _ V a9 aa Q d hS Y;go_wp2_with (first|(go_at_call 105;refine T.mono ?_;clear T;rintro e w5 ⟨rfl,⟨j,Z,ak,K⟩,G⟩;have a6:=K.1;have ai:=aA K;have al:=ak.facts a6;obtain⟨s1,s2,s3,s4,s5,s6,s7,s8⟩:=al;have W:=aA (eH G ag (fun e=>by have h:=iP e;have:=f.out;omega));have ac:=aA (ab.grown G (fun k M=>by have h:=iP M;have:=HN.out;have:=f.out;have:=af.out;omega));clear G K));refine bA (acP j w5) fun w6 a7=>?_;have z:=aA ((a7.block (aI W)).trans W);have ad:=aA (ac.trans a7);have f0:=aP z 0 32 (by simp[dJ,sJ]);have f1:=bE z 0 32;have f3:(uL (kf j)).length=32:=by rw[dJ,yW]
     have f4:=mY (kf j);go_wp2_with fail;have HE:Hid (HB (w6.setCells n 0 (uL (kf j))) n (uL (kf j)) 142):=bO z (by rw[dJ,dJ,yW,sJ])
     have p:=aA (ad.setsOwn (b:=n) (by have:=HN.out;omega) (uL (kf j)) 0);have HD:Hid (kf j=f_ l):=QJ (l:=l) (blk:=Z) (by rw[B.out];exact ai);refine bI (dY rfl _ _ n _ _ _ _ rfl HE underlying142 rfl (by kernel_rfl)) rfl ?_;exact⟨by rw[HD.out],p⟩
  .have ao:J-1+1<=fN N:=ZN N (J-1) (by omega) a2
   have q0:((r:Int)==56)=false:=dI.2 (by omega);have q1:((r:Int) != 56)=true:=by simp only[bne,q0];rfl
   have HP:=aA (show lE (J-1)++[0]=lE (J+1-1) by rw[Qk];congr 1;omega)
   have HL:=aA (show (lE (J-1)).length+1=J+1 by rw[Mk];omega)
   have L:n+1<=wr.heap.size:=by have:=F.out;omega
   have E:=aA (hO.gr ((Gr.refl wr).alloc (.cells #[.int .u8 0] 5)));have O8:Hid (aZ (wr.alloc (.cells #[.int .u8 0] 5)) (n+1) (aR (wr.heap.size) 0 1 1) [0]):=aZ.made (l:=[0]) (cM wr _) L (by simp);have z7:n+1<=(wr.alloc (.cells #[.int .u8 0] 5)).heap.size:=by simp;omega
   have H:J+1<=1000000:=by omega
   have p:=aA (hG.alloc (.cells #[.int .u8 0] 5));have D:=aA ((((Gr.refl wr).alloc (.cells #[.int .u8 0] 5)).block (show n<wr.heap.size by omega)).trans hZ);go_wp2_with (at_builtin;refine pp _ rfl _ _ rfl (n+1) (.slice a J c) (lE (J-1)) (by simp[Act.eval]) E (aR (wr.heap.size) 0 1 1) [0] (by simp[Act.eval]) O8 (J+1) HL H z7 ?_;intro a3 n3 w3 I g);go_roundw
   .exact⟨J+1,by omega,by omega,⟨a3,n3,rfl⟩,by rw[<-HP.out];exact I,eH g D (fun e=>by have:=(fA E n e).1;omega),eu (by have:=F.out;simp;omega) g.size,p.grown g (fun k M=>by have:=(fA E k M).1;have:=HN.out;omega)⟩
   .simp[tj];omega
def gC(W:aB)(v:Value)(l:aM):Prop:=∃a c,v=.slice a l.length c/\l.length<=c/\(l=[]\/∃g o,a=some (aD g o)/\cS W g o l)
def gC.gr{W b:aB}{v:Value}{l:aM}(h:gC W v l)(k:Gr W b):gC b v l:=by
 obtain⟨a,c,d,e,f⟩:=h;exact⟨a,c,d,e,f.imp id (fun⟨g,o,i,j⟩=>⟨g,o,i,j.gr k⟩)⟩
def gC.byN{W d:aB}{v:Value}{l:aM}(h:gC W v l)(m:Gr W d){b:Nat}(n:W.heap.size<=b):p_ d v l b:=by
 obtain⟨a,c,f,i,j⟩:=h;exact⟨a,c,f,i,j.imp id (fun⟨g,o,k,e⟩=>⟨g,o,k,e.gr m,by have:=e.1;omega⟩)⟩
def aZ.bytG{w:aB}{base:Nat}{v:Value}{l:aM}(h:aZ w base v l):gC w v l:=by
 obtain⟨a,c,d,f,i⟩:=h.bytN (b:=w.heap.size) (fun e=>by have:=(fA h _ e).2;omega);exact⟨a,c,d,f,i.imp id (fun⟨g,o,j,k,_⟩=>⟨g,o,j,k⟩)⟩
def UR(w:aB):Calls prog 104 #[] w fun e w'=>e=.returned (bZ (w.heap.size))/\w'=w.alloc (aC (gX kp rh 0) 252):=by
 go_in;go_wp2_with fail;go_ret;exact⟨rfl,rfl⟩
def Kk(v:Value)(l:aM)(w:aB)(p:Kt w)(a:l.length<=900000)(J:gC w v l):Calls prog 63 #[v] w (RG w (aE (uL (f_ l)))):=by
 obtain⟨n,I⟩:=ex w.heap.size;have H:=aA I;have D:Hid (HB (w.alloc (aC (uL fP) 142)) n (uL fP) 142):=aY _ _ _ I.symm
 have j:Hid (Gr w (w.alloc (aC (uL fP) 142))):=(Gr.refl w).alloc _;have i:=aA ((Gr.refl (w.alloc (aC (uL fP) 142))).alloc (aC (gX kp rh 0) 252));have G:Hid (gL ((w.alloc (aC (uL fP) 142)).alloc (aC (gX kp rh 0) 252)) (n+1) kp rh 0):=aY _ _ _ (by simp;omega);have F:2 ≠n+1:=fun e=>by have:=p.lt;omega
 have q:=Mf (n+1) [] l v kp rh _ ((p.gr j).gr i) (fun e=>by have:=p.lt;omega) (by simp;omega) G TQ (fun h=>absurd rfl h) (J.byN (j.trans i) (by omega));have E:=aA ((i.block (aI D)).trans D);have t:=aA (j.trans i);have z:=aA ((p.gr j).gr i);have C:=aA a;clear J p G i D j a;go_in;go_wp2_with (first|(go_at_call 104;refine(UR _).mono ?_;rintro e w' ⟨rfl,rfl⟩)|(go_at_call 105;refine q.mono ?_));clear q;rintro e L ⟨rfl,⟨K,blk,f,g⟩,c⟩;rw[mZ]at g;have m:=aA g;have s:Hid (gL L (n+1) K blk (l.length:Int)):=by show gL _ _ _ _ _;rw[iJ,fB]at f;exact f
 have o:=aA (eH c E (by simp));have u:=aA (t.grown c (fun k hk=>by cases hk;have:=H.out;omega));have B:=aA (z.grown c F);clear c f g;go_wp2_with (go_at_call 106;refine(aae (n+1) l K blk L B C s m.1 (fun _=>m)).mono ?_);rintro e N ⟨rfl,r⟩;have d:=aA ((r.block (aI o)).trans o);have x:=aA (u.trans r);have O:=aP d 0 32 (by simp[dJ,sJ]);have P:=bE d 0 32;have Q:(uL (f_ l)).length=32:=by rw[dJ,pC]
 have R:=mY (f_ l);go_wp2_with fail;have M:Hid (HB (N.setCells n 0 (uL (f_ l))) n (uL (f_ l)) 142):=bO d (by rw[dJ,dJ,pC,sJ])
 have y:=aA (x.setsOwn (b:=n) (by have:=H.out;omega) (uL (f_ l)) 0);refine bI (dY rfl _ _ n _ _ _ _ rfl M underlying142 rfl (by kernel_rfl)) rfl ?_;exact⟨rfl,y⟩
def xE(l:aM):bC (cF l)=uL (h' l):=by
 rw[<-uW,Av]
def ME(l:aM):dD (uL (f_ l)) 0 16=bC (cF l):=by
 rw[xE];have e:uL (f_ l)=uL (h' l)++uL ((f_ l).drop 16):=by
  unfold h' uL;rw[<-gD,lq]
 rw[e];exact gP _ _ _ (by rw[dJ,rF])
def aO(x:aK):(bC x).length=16:=by simp[bC]
def cZ(x:aK):cN (bC x)=true:=by rw[<-uW];exact mY _
def wO(v:Value)(l:aM)(w:aB)(r:Kt w)(c:l.length<=900000)(u:gC w v l):Calls prog 31 #[v] w (RG w (aE (bC (cF l)))):=by
 obtain⟨n,t⟩:=ex w.heap.size;have y:=aA t;have q:Hid (HB (w.alloc (aC (uL eO) 92)) n (uL eO) 92):=aY _ _ _ t.symm
 have i:Hid (Gr w (w.alloc (aC (uL eO) 92))):=(Gr.refl w).alloc _;have p:=Kk v l _ (r.gr i) c (u.gr i);have E:(uL (f_ l)).length=32:=by rw[dJ,pC]
 have F:=mY (f_ l);go_in;go_wp2_with (go_at_call 63;refine p.mono ?_);rintro e h ⟨rfl,g⟩;have f:=aA ((g.block (aI q)).trans q);have j:=aA (i.trans g);obtain⟨m,s⟩:=ex h.heap.size;have B:n<m:=s▸aI f;have d:Hid (HB (h.alloc (aC (uL (f_ l)) 142)) m (uL (f_ l)) 142):=aY _ _ _ s.symm
 have a:Hid (HB (h.alloc (aC (uL (f_ l)) 142)) n (uL eO) 92):=(((Gr.refl h).alloc _).block (by omega)).trans f
 have k:=aA (j.alloc (aC (uL (f_ l)) 142));have z:∀w,(Instr.arrayAt 92 (aR m 0 16 32)).run prog w=.ok (bZ m) w:=fun w=>run_arrayAt (w:=w) 92 5 16 _ 16 32 underlying92 (aU _);have H:=aP d 0 16 (by simp[dJ,pC]);have G:=(bJ d 0 16 (by simp[dJ,pC])).trans (ME l);have I:=aP a 0 16 (by simp[dJ,jf]);have J:=bE a 0 16;have K:=aI a;have C:=aO (cF l);have D:=cZ (cF l);go_wp2_with fail;have x:Hid (HB ((h.alloc (aC (uL (f_ l)) 142)).setCells n 0 (bC (cF l))) n (bC (cF l)) 92):=bO a (by rw[dJ,aO,jf])
 have o:=aA (k.setsOwn (b:=n) (by have:=y.out;omega) (bC (cF l)) 0);refine bI (dY rfl _ _ n _ _ _ _ rfl x underlying92 rfl (by kernel_rfl)) rfl ?_;exact⟨rfl,o⟩
def Ex(v:Value)(l:aM)(w:aB)(k:Kt w)(a:l.length<=900000)(o:gC w v l):Calls prog 149 #[v] w (RG w (aE (bC (cF l)))):=by
 obtain⟨n,m⟩:=ex w.heap.size;have q:=aA m;have j:Hid (HB (w.alloc (aC (uL eO) 22)) n (uL eO) 22):=aY _ _ _ m.symm
 have f:Hid (Gr w (w.alloc (aC (uL eO) 22))):=(Gr.refl w).alloc _;have i:=wO v l _ (k.gr f) a (o.gr f);have s:=aO (cF l);have t:=cZ (cF l);go_in;go_wp2_with (go_at_call 31;refine i.mono ?_);rintro e r ⟨rfl,d⟩;have c:=aA ((d.block (aI j)).trans j);have g:=aA (f.trans d);have u:=aP c 0 16 (by simp[dJ,jf]);have x:=bE c 0 16;go_wp2_with fail;have p:Hid (HB (r.setCells n 0 (bC (cF l))) n (bC (cF l)) 22):=bO c (by rw[dJ,aO,jf])
 have h:=aA (g.setsOwn (b:=n) (by have:=q.out;omega) (bC (cF l)) 0);refine bI (dY rfl _ _ n _ _ _ _ rfl p underlying22 rfl (by kernel_rfl)) rfl ?_;exact⟨rfl,h⟩
end Go.Proofs.YtjfaogajmoffoaaGreatDoor
