/- Lemmas for VerifyStatus. -/
import Derived.Test.YtjfaogajmoffoaaGreatDoorQBS
set_option maxRecDepth 100000
set_option maxHeartbeats 16000000
set_option linter.all false
namespace Go.Proofs.YtjfaogajmoffoaaGreatDoor
open Go.RowKit Tryz
def rq(x:aK):(prog.info? 22).map (fun x=>x.size)=some (bC x).toArray.size:=by
 rw[bQ,aO];kernel_rfl
def uo(w:aB){c:Array Oper}{rest:List Oper}{o:Oper}{a:Act}{Q:Exit->Act->aB->Prop}(f:o.guard=none)(s x:Operand)
  (p:o.op=.call { callee:=.builtin .append,args:=#[s,x],argTypes:=#[94,94] }) (base:Nat) (v:Value) (xs:aM) (hs:a.eval s=v) (hown:aZ w base v xs)
  (sv:Value) (ys:aM) (hx:a.eval x=sv) (hsl:bX w sv 1 (iV ys)) (n:Nat) (hn:xs.length+ys.length=n) (h63:n<=1000000) (hbase:base<=w.heap.size)
  (h:∀d e w',aZ w' base (.slice d n e) (xs++ys)->w.grownBy w' v.ownBlock->wpList prog c Q rest (a.put o.dst (.slice d n e)) w'):
  wpList prog c Q (o::rest) a w:=by
 subst hn;obtain⟨i,z,g,j,k,l,m⟩:=sr;refine tU w f s x 94 p base 5 i z 1 1 underlying94 g j k l m (aH rfl) v xs.length (xs.map cU) hs hown sv (iV ys) hx hsl (uP _) (xx _) (by rw[kK];exact h63) (aH rfl) hbase ?_;intro d e w' b hg _;rw[uT,kK]at b;rw[kK];refine h d e w' ?_ hg;unfold aZ;rw[gD,bV];exact b
def abc(b:UInt8)(a:Nat)(w:aB):Calls prog 148 #[.int .u8 (b.toNat:Int),.int .i64 (a:Int)] w fun e w'=>e=.returned (aR (w.heap.size) 0 5 5)/\aZ w' w.heap.size (aR (w.heap.size) 0 5 5) (gS b a)/\Gr w w':=by
 have i:=tV a 24;have k:=tV a 16;have n:=tV a 8;have p:=o7 a;have g:Hid (gS b a=[b,UInt8.ofNat (a/2^24),UInt8.ofNat (a/2^16),UInt8.ofNat (a/2^8),UInt8.ofNat a]):=rfl;generalize gS b a=l at*
 generalize UInt8.ofNat (a/2^24)=c at*
 generalize UInt8.ofNat (a/2^16)=d at*
 generalize UInt8.ofNat (a/2^8)=f at*
 generalize UInt8.ofNat a=h at*
 have j:IntKind.u8.wrap ((a:Int)/16777216)=(c.toNat:Int):=i;have m:IntKind.u8.wrap ((a:Int)/65536)=(d.toNat:Int):=k;have o:IntKind.u8.wrap ((a:Int)/256)=(f.toNat:Int):=n;go_in;go_wp2_with fail;go_ret;exact⟨rfl,by rw[g.out];exact aZ.made (l:=[b,c,d,f,h]) (cM w _) (aU _) (by simp),(Gr.refl w).alloc _⟩
def Ct(b:UInt8)(a:Nat)(x:Int)(c:(b.toNat:Int)=x)(w:aB):Calls prog 148 #[.int .u8 x,.int .i64 (a:Int)] w fun e w'=>e=.returned (aR (w.heap.size) 0 5 5)/\aZ w' w.heap.size (aR (w.heap.size) 0 5 5) (gS b a)/\Gr w w':=by
 subst c;exact abc b a w
def Lq(a:Vector UInt8 32)(d c:Nat)(w:aB)(S:Kt w):Calls prog 101 #[aE (bC a),.int .i64 (d:Int),.int .i64 (c:Int)] w (RG w (aE (bC (first a d c)))):=by
 obtain⟨n,M⟩:=ex w.heap.size;have H:=aA M;have W:Hid (cS ((w.alloc (aC (bC a) 25)).alloc (aC (bC aQ) 22)) n 0 a.toList):=(cS.vec (aY _ _ _ M.symm)).gr ((Gr.refl _).alloc _);have O:Hid (HB ((w.alloc (aC (bC a) 25)).alloc (aC (bC aQ) 22)) (n+1) (bC aQ) 22):=aY _ _ _ (by simp;omega)
 have Z:Hid (Gr w ((w.alloc (aC (bC a) 25)).alloc (aC (bC aQ) 22))):=((Gr.refl w).alloc _).alloc _;have N:=aA (show ((w.alloc (aC (bC a) 25)).alloc (aC (bC aQ) 22)).heap.size=n+2 by simp;omega)
 obtain⟨b,L⟩:=ex (UInt8.ofNat c);have e1:IntKind.u8.wrap (c:Int)=(b.toNat:Int):=by rw[<-L];exact o7 c
 have Y:=aA (show cF (gS 2 d++[b]++a.toList)=first a d c by rw[<-L];rfl)
 have HK:=aA S;go_in;go_wp2_with fail;try simp only[M]
 generalize(w.alloc (aC (bC a) 25)).alloc (aC (bC aQ) 22)=U0 at*
 refine(Ct 2 d 2 rfl U0).mono ?_;rintro e r ⟨rfl,K,o⟩;rw[show U0.heap.size=n+2 from N.out]at K|-
 have U:n+2<=r.heap.size:=by rw[<-show U0.heap.size=n+2 from N.out];exact o.size
 have P:=aA (K.gr ((Gr.refl r).alloc (.cells #[.int .u8 (b.toNat:Int)] 5)));have Q:Hid (aZ (r.alloc (.cells #[.int .u8 (b.toNat:Int)] 5)) (n+2) (aR (r.heap.size) 0 1 1) [b]):=aZ.made (l:=[b]) (cM r _) U (by simp);have V:n+2<=(r.alloc (.cells #[.int .u8 (b.toNat:Int)] 5)).heap.size:=by simp;omega
 have i:=o.alloc (.cells #[.int .u8 (b.toNat:Int)] 5);have D:=aA (Z.trans i);have z:=aA (W.gr i);have I:=aA ((i.block (aI O)).trans O);go_wp2_with (first
  |(at_builtin;refine pp _ rfl _ _ rfl (n+2) (aR (n+2) 0 5 5) (gS 2 d) (by simp[Act.eval]) P (aR (r.heap.size) 0 1 1) [b] (by simp[Act.eval]) Q 6 rfl (aH rfl) V ?_;intro R T w3 x f;have B:=aA (z.grownV (b:=n+2) f (by omega));have J:=aA (eH f I (by simp[Value.ownBlock]));have E:=aA (D.grown f (fun k v=>by have h:n+2=k:=iP v;have:=H.out;omega));have m:=aA x;have z3:n+2<=w3.heap.size:=eu V f.size;have t:=aA (B.sl 32 32 (by simp) (aU _));clear x f)
  |(at_builtin;refine uo _ rfl _ _ rfl (n+2) (.slice R 6 T) (gS 2 d++[b]) (by simp[Act.eval]) m (aR n 0 32 32) a.toList (by simp[Act.eval]) t 38 (by simp[qJ]) (aH rfl) z3 ?_;intro a5 n5 w5 y p))
 have j:∀k,(Value.slice R 6 T).ownBlock=some k->n+2<=k:=fun k v=>(fA m k v).1;have u:=aA (eH p J (fun e=>by have:=j _ e;omega));have s:=aA (E.grown p (fun k v=>by have:=j _ v;have:=H.out;omega));have C:=Ex (.slice a5 38 n5) _ w5 (HK.gr s) (by simp[qJ]) y.bytG;rw[Y.out]at C;refine bA C fun w6 q=>?_;have g:=aA ((q.block (aI u)).trans u);have F:=aA (s.trans q);have z0:=aP g 0 16 (by simp[aO]);have U:=bE g 0 16;have z2:=aI g;have b1:=aO (first a d c);have b2:=cZ (first a d c);clear C q p y t P Q m;go_wp2_with fail;have X:Hid (HB (w6.setCells (n+1) 0 (bC (first a d c))) (n+1) (bC (first a d c)) 22):=bO g (by simp[aO])
 have G:=aA (F.setsOwn (b:=n+1) (by have:=H.out;omega) (bC (first a d c)) 0);refine bI (dY rfl _ _ (n+1) _ _ _ _ rfl X underlying22 rfl (rq _)) rfl ?_;exact⟨rfl,G⟩
def Fl(d a f t:Nat)(v:aK)(a1:f<=t)(ht:t<=15)(w:World)(hK:Kt w):Calls prog 100 #[.int .i64 (d:Int),.int .i64 (a:Int),.int .i64 (f:Int),.int .i64 (t:Int),.agg (bC v).toArray] w (RG w (.agg (bC (fk d a f (t-f) v)).toArray)):=by
 obtain⟨n,K⟩:=ex w.heap.size;have HN:=aA K;have HB:Hid (((w.alloc (aC (bC v) 22)).alloc (aC (bC aQ) 22)).heap[n]? =some (aC (bC v) 22)):=(((Gr.refl _).alloc _).block (by simp;omega)).trans (aY _ _ _ K.symm)
 have HZ:Hid (((w.alloc (aC (bC v) 22)).alloc (aC (bC aQ) 22)).heap[n+1]? =some (aC (bC aQ) 22)):=aY _ _ _ (by simp;omega)
 have HG:Hid (Gr w ((w.alloc (aC (bC v) 22)).alloc (aC (bC aQ) 22))):=((Gr.refl w).alloc _).alloc _
 have HK:=aA hK;obtain⟨c,hc⟩:=ex (UInt8.ofNat a);have e1:IntKind.u8.wrap (a:Int)=(c.toNat:Int):=by rw[<-hc];exact o7 a
 have HF:Hid (∀s (x:aK),cF (gS 3 d++[c,UInt8.ofNat s]++x.toList)=oN d a s x):=fun s x=>by rw[<-hc];rfl
 clear hc hK;go_in;go_wp2_with fail;try simp only[K]
 generalize(w.alloc (aC (bC v) 22)).alloc (aC (bC aQ) 22)=U0 at*
 clear K
 go_loopw [11] (fun s wr=>∃k:Nat,f+k<=t/\s=.int .i64 ((f+k:Nat):Int)/\Hid (wr.heap[n]? =some (aC (bC (fk d a f k v)) 22))/\Hid (wr.heap[n+1]? =some (aC (bC aQ) 22))/\Hid (Gr w wr)) (fun s _=>t-(intOf s).toNat)
 .exact⟨0,a1,rfl,HB,HZ,HG⟩
 .
  obtain⟨k,z,rfl,E,q,Y⟩:=hrel;obtain⟨s,hs⟩:=ex (f+k);have i:=HF s (fk d a f k v);have L:=aA (show oN d a s (fk d a f k v)=fk d a f (k+1) v by rw[<-hs];rfl)
  rw[hs]at z|-
  obtain⟨b,Z⟩:=ex (UInt8.ofNat s);rw[Z]at i;have e2:IntKind.u8.wrap (s:Int)=(b.toNat:Int):=by rw[<-Z];exact o7 s
  clear Z;have R:Hid (s=t->fk d a f k v=fk d a f (t-f) v):=fun h=>by rw[show k=t-f by omega]
  generalize fk d a f k v=x at*
  rw[L.out]at i;obtain⟨y,hy⟩:=ex (fk d a f (k+1) v);rw[hy]at i;have HY:=aA hy;clear hy;by_cases a6:s<t
  .have a2:(s:Int)<(t:Int):=by omega
   have q1:wr.heap.size≥n+2:=by have:=aI q;omega
   obtain⟨m,hm⟩:=ex wr.heap.size;have W:=aA (Ct 3 d 3 rfl wr);rw[hm]at W;have O:Hid (cS wr n 0 x.toList):=cS.vec E;go_wp2_with (first
    |(go_at_call 148;refine W.mono ?_;clear W;rintro e B ⟨rfl,hO,r⟩;have z1:m<=B.heap.size:=hm▸r.size;have O7:=aA (hO.gr ((Gr.refl B).alloc (.cells #[.int .u8 (c.toNat:Int),.int .u8 (b.toNat:Int)] 5)));have O8:Hid (aZ (B.alloc (.cells #[.int .u8 (c.toNat:Int),.int .u8 (b.toNat:Int)] 5)) m (.slice (some ⟨B.heap.size,0,none⟩) 2 2) [c,b]):=aZ.made (l:=[c,b]) (cM B _) z1 (by simp);have z7:m<=(B.alloc (.cells #[.int .u8 (c.toNat:Int),.int .u8 (b.toNat:Int)] 5)).heap.size:=by simp;omega
      have u:=r.alloc (.cells #[.int .u8 (c.toNat:Int),.int .u8 (b.toNat:Int)] 5);have M:=aA (O.gr u);have S:=aA (u);clear hO r u)
    |(at_builtin;refine pp _ rfl _ _ rfl m (.slice (some ⟨m,0,none⟩) 5 5) (gS 3 d) (by simp[Act.eval]) O7 (.slice (some ⟨B.heap.size,0,none⟩) 2 2) [c,b] (by simp[Act.eval]) O8 7 rfl (by decide) z7 ?_;intro a3 n3 w3 H j;have N:=aA (M.grownV (b:=m) j (by omega));have T:=aA (S.grown j (fun k z=>by have h:m=k:=iP z;omega));have p:=aA H;have z3:m<=w3.heap.size:=eu z7 j.size;have D:=aA (N.sl 16 16 (by simp) (aU _));clear H j)
    |(at_builtin;refine uo _ rfl _ _ rfl m (.slice a3 7 n3) (gS 3 d++[c,b]) (by simp[Act.eval]) p (.slice (some ⟨n,0,none⟩) 16 16) x.toList (by simp[Act.eval]) D 23 (by simp[qJ]) (by decide) z3 ?_;intro a5 n5 w5 I F))
   have J:∀k,(Value.slice a3 7 n3).ownBlock=some k->m<=k:=fun k z=>(fA p k z).1;have C:=aA (T.grown F (fun k z=>by have:=J _ z;omega));have P:=Ex (.slice a5 23 n5) _ w5 (HK.gr (Y.trans C)) (by simp[qJ]) I.bytG;rw[i]at P;refine P.mono ?_;rintro e w6 ⟨rfl,G⟩;have o:=aA (C.trans G);have g:=aA ((o.block (aI E)).trans E);have X:=aA ((o.block (aI q)).trans q);have z0:=aP g 0 16 (by simp[aO]);have z1:=bE g 0 16;have z2:=aI g;have b1:=aO y;have b2:=cZ y;have V:=aA (Y.trans o);have a4:IntKind.i64.wrap ((s:Int)+1)=((s+1:Nat):Int):=by rw[cV];omega
   clear P G F I D O7 O8 p;go_wp2_with fail;go_roundw
   .
    refine⟨k+1,by omega,by go_num,?_,?_,?_⟩
    .show Hid _
     rw[HY.out];exact bO g (by simp[aO])
    .exact(cD (by omega) _ _ _).trans X
    .exact V.setsOwn (b:=n) (by have:=HN.out;omega) (bC y) 0
   .simp[intOf];omega
  .have a2:¬(s:Int)<(t:Int):=by omega
   have Q:Hid (x=fk d a f (t-f) v):=R (by omega);have z0:=aP q 0 16 (by simp[aO]);have z1:=bE q 0 16;have z2:=aI q;have z3:=aP E 0 16 (by simp[aO]);have z4:=(bJ E 0 16 (by simp[aO])).trans (b_ _ _ (aO x));have b1:=aO x;have b2:=cZ x;go_wp2_with fail;have HE:Hid ((wr.setCells (n+1) 0 (bC x)).heap[n+1]? =some (aC (bC x) 22)):=bO q (by simp[aO])
   have U:=aA (Y.setsOwn (b:=n+1) (by have:=HN.out;omega) (bC x) 0);refine bI (dY rfl _ _ (n+1) _ _ _ _ rfl HE underlying22 rfl (rq _)) rfl ?_;exact⟨by rw[Q.out],U⟩
def kc(m n:Nat)(e:Nat->aK):bF:=(List.range' m n).flatMap fun i=>bC (e i)
def cB(e:Nat->aK):bF:=kc 0 35 e
def Cf(m r:Nat)(e:Nat->aK):kc m (r+1) e=bC (e m)++kc (m+1) r e:=by
 unfold kc;rw[List.range'_succ,n_]
def uE(e:Nat->aK):∀n m,(kc m n e).length=16*n
 |0,_=>rfl
 |n+1,m=>by rw[Cf,bV,aO,uE e n];omega
def Y7(e:Nat->aK)(m k r:Nat):kc m (k+r) e=kc m k e++kc (m+k) r e:=by
 unfold kc;rw[<-List.range'_append_1,pG]
def CH{e e':Nat->aK}{m n:Nat}(h:∀i,m<=i->i<m+n->e i=e' i):kc m n e=kc m n e':=by
 unfold kc;rw[zI,zI];congr 1;apply xR;intro i hi;have:=List.mem_range'_1.1 hi;rw[h i this.1 this.2]
def vZ{e e':Nat->aK}(h:∀i,i<35->e i=e' i):cB e=cB e':=CH fun i _ hi=>h i (by omega)
def en(e:Nat->aK):(cB e).length=560:=uE e 35 0
def yb(e:Nat->aK)(k:Nat)(a:k<35):cB e=kc 0 k e++(bC (e k)++kc (k+1) (34-k) e):=by
 unfold cB;rw[show 35=k+(34-k+1) by omega,Y7,Cf,fB]
def o9(e:Nat->aK)(k:Nat)(x:aK):Nat->aK:=fun i=>if i=k then x else e i
def ac0(e:Nat->aK)(k:Nat)(x:aK)(b:k<35):cB (o9 e k x)=kc 0 k e++(bC x++kc (k+1) (34-k) e):=by
 rw[yb _ k b];have a:o9 e k x k=x:=by unfold o9;rw[aG rfl]
 rw[a,CH (e:=o9 e k x) (e':=e) (m:=0) (n:=k) (fun i _ hi=>by unfold o9;rw[aF (by omega)]),CH (e:=o9 e k x) (e':=e) (m:=k+1) (fun i hi _=>by unfold o9;rw[aF (by omega)])]
def Ch(e:Nat->aK)(k:Nat)(a:k<35):dD (cB e) (k*16) 16=bC (e k):=by
 rw[pm,yb e k a,eQ _ _ _ _ (16*k) (uE e k 0) (aU _),qR,gP _ _ _ (aO _)]
def wP{W:aB}{b:Nat}{t:TypeId}{e:Nat->aK}(h:HB W b (cB e) t) (k:Nat) (a:k<35) (x:aK):HB (W.setCells b (k*16) (bC x)) b (cB (o9 e k x)) t:=by
 rw[pm];rw[yb e k a]at h;have:=qT b t (kc (k+1) (34-k) e) (bC x) (kc 0 k e) (bC (e k)) W (by rw[aO,aO]) h;rw[uE e k 0]at this;rw[ac0 e k x a];exact this
def Hj(e:Nat->aK):∀n m,cN (kc m n e)=true
 |0,_=>rfl
 |n+1,m=>by rw[Cf];simp only[iI,cZ,Hj e n,zH]
def uU(e:Nat->aK):cN (cB e)=true:=Hj e 35 0
def mX(a:Nat)(e:Nat->aK)(k:Nat):aM:=gS 4 a++(List.range k).flatMap fun i=>(e i).toList
def Fr(a:Nat)(e:Nat->aK)(k:Nat):mX a e k++(e k).toList=mX a e (k+1):=by
 unfold mX;rw[wI,pG,fl];simp
def Ci(a:Nat)(e:Nat->aK)(k:Nat):(mX a e k).length=5+16*k:=by
 induction k with
 |zero=>rfl
 |succ k b=>rw[<-Fr,bV,b,oU];omega
def Yg(t:TypeId)(h:prog.underlying t=some (.array 35 22))(e:Nat->aK)(k:Nat)(b:k<35)(w:aB):(Instr.index t (aE (cB e)) (.int .i64 (k:Int))).run prog w=.ok (aE (bC (e k))) w:=by
 have hr:=Ch e k b;unfold dD at hr;obtain⟨i,hi,a⟩:∃i,prog.info? 22 =some i/\i.size=16:=by
  have c:(prog.info? 22).map (fun x=>x.size)=some 16:=by kernel_rfl
  obtain⟨i,hi,a⟩:=o4.1 c;exact⟨i,hi,a⟩
 simp[Instr.index,asIntOf,lQ h,b,part,isAgg,lQ underlying22,sizeOf,typeInfo,hi,a];rw[hr]
def jA{P:Program}{fn:Func}{p u1:Tmp}{ty:TypeId}(h:fn.results=#[.cell p ty,.tmp u1])(a:Array Value)(w:aB)(g:Nat)(t:TypeId)(cs:Array Value)(fr:Nat×Nat)(d:TypeDesc)
  (f:a.getD p undef=bZ g) (e:w.heap[g]? =some (.cells cs t fr))
  (i:P.underlying ty=some d) (c:(match d with| .struct _| .array _ _=>true|_=>false)=true) (hi:(P.info? ty).map (·.size)=some cs.size):
  (results fn a).run P w=.ok (.tuple #[.agg cs,a.getD u1 undef]) w:=by
 have b:a[p]?.getD undef=bZ g:=by simpa using f
 simp[results,h,b,asAddr,uM w g t ty cs fr d e i c hi]
@[go_sem ↓ high] def ahh (w:aB):Sem.run prog (zeroValue 29) w=.ok (aE (cB fun _=>aQ)) w:=by kernel_rfl
@[go_sem ↓ high] def agC (w:aB):Sem.run prog (zeroValue 215) w=.ok (aE (cB fun _=>aQ)) w:=by kernel_rfl
@[go_sem] def agk:dZ prog 29 =true:=by kernel_rfl
@[go_sem] def aho:dZ prog 215 =true:=by kernel_rfl
@[go_sem] def agZ:prog.cellsOf 29 =560:=by kernel_rfl
@[go_sem] def ahX:prog.cellsOf 215 =560:=by kernel_rfl
def VI(e:Nat->aK):(prog.info? 29).map (fun x=>x.size)=some (cB e).toArray.size:=by
 rw[bQ,en];kernel_rfl
def acQ(e:Nat->aK):(prog.info? 215).map (fun x=>x.size)=some (cB e).toArray.size:=by
 rw[bQ,en];kernel_rfl
def Ao(a:Nat)(d:a<=65535)(w:aB):Calls prog 99 #[.int .i64 (a:Int)] w fun e w'=>e=.returned (.bool true)/\w=w':=by
 have b:=nn a
 have c:(a:Int)<=65535:=by omega
 go_in;go_wp2_with fail;go_ret;exact⟨rfl,rfl⟩
def Kb(d:Nat)(hl:d<=65535)(e:Nat->aK)(w:aB)(W:Kt w):Calls prog 102 #[.int .i64 (d:Int),aE (cB e)] w (RG w (.tuple #[aE (bC (lA d e)),.int .i64 0])):=by
 obtain⟨n,C⟩:=ex w.heap.size;have R:=aA C;have Q:Hid (HB ((w.alloc (aC (cB e) 29)).alloc (aC (bC aQ) 22)) n (cB e) 29):=(((Gr.refl _).alloc _).block (by simp;omega)).trans (aY _ _ _ C.symm)
 have S:Hid (HB ((w.alloc (aC (cB e) 29)).alloc (aC (bC aQ) 22)) (n+1) (bC aQ) 22):=aY _ _ _ (by simp;omega)
 have Y:Hid (Gr w ((w.alloc (aC (cB e) 29)).alloc (aC (bC aQ) 22))):=((Gr.refl w).alloc _).alloc _;have HS:=aA (show ((w.alloc (aC (cB e) 29)).alloc (aC (bC aQ) 22)).heap.size=n+2 by simp;omega)
 have Z:=aA W;have H:=aA (Ao d hl);have I:=aA (Yg 29 underlying29 e);go_in;go_wp2_with (go_at_call 99;refine dK (H _) ?_);try simp only[C]
 generalize(w.alloc (aC (cB e) 29)).alloc (aC (bC aQ) 22)=U0 at*
 refine(Ct 4 d 4 rfl U0).mono ?_;rintro x w1 ⟨rfl,o,g⟩;rw[show U0.heap.size=n+2 from HS.out]at o|-
 have l:=(g.block (aI Q)).trans Q;have K:=aA ((g.block (aI S)).trans S);have F:=aA (Y.trans g);have HO:=aA o;have z3:=aP l 0 560 (by rw[en];decide);have z4:=(bJ l 0 560 (by rw[en];decide)).trans (b_ _ _ (en e));go_wp2_with fail
 go_loopw [6,16] (fun s i wr=>∃k:Nat,k<=35/\(∃a c,s=.slice a (5+16*k) c)/\i=.int .i64 (k:Int)/\Hid (aZ wr (n+2) s (mX d e k))/\Hid (HB wr (n+1) (bC aQ) 22)/\Hid (Gr w wr)) (fun _ i _=>35-(intOf i).toNat)
 .exact⟨0,by decide,⟨_,_,rfl⟩,rfl,HO,K,F⟩
 .
  obtain⟨k,B,⟨a,c,rfl⟩,rfl,o,t,M⟩:=hrel;by_cases N:k<35
  .have a2:(k:Int)<35:=by omega
   have a1:=I k N;have HP:=Fr d e k;have r:=Ci d e k;have U:=aO (e k);have V:=cZ (e k);generalize e k=x at*
   generalize mX d e k=p at*
   obtain⟨m,hm⟩:=ex (5+16*k);rw[hm]at o r|-
   have q1:wr.heap.size≥n+2:=aI t;have q:=(Gr.refl wr).alloc (aC (bC x) 22);have T:=aA (o.gr q);have D:Hid (cS (wr.alloc (aC (bC x) 22)) wr.heap.size 0 x.toList):=cS.vec (aY _ _ _ rfl);have J:=aA (D.sl 16 16 (by simp) (aU _));have L:=aA ((q.block (aI t)).trans t);have j:=aA (M.trans q);have z7:n+2<=(wr.alloc (aC (bC x) 22)).heap.size:=by simp;omega
   go_wp2_with (at_builtin;refine uo _ rfl _ _ rfl (n+2) (.slice a m c) p (by simp[Act.eval]) T (aR (wr.heap.size) 0 16 16) x.toList (by simp[Act.eval]) J (m+16) (by simp[r]) (by omega) z7 ?_;intro a5 n5 w5 O u);have h:∀k,(Value.slice a m c).ownBlock=some k->n+2<=k:=fun k B=>(fA T k B).1;go_roundw
   .exact⟨k+1,by omega,⟨a5,n5,by rw[show 5+16*(k+1)=m+16 by omega]⟩,by go_num,by rw[<-HP];exact O,eH u L (fun e=>by have:=h _ e;omega),j.grown u (fun k B=>by have:=h _ B;have:=R.out;omega)⟩
   .simp[intOf];omega
  .obtain rfl:k=35:=by omega
   have z:=Ex (.slice a 565 c) (rN d e) wr (Z.gr M) (by rw[show(rN d e).length=_ from Ci d e 35];decide) (by exact o.bytG);have E:Hid (cF (rN d e)=lA d e):=rfl;rw[E.out]at z;have U:=aO (lA d e);have V:=cZ (lA d e);obtain⟨y,P⟩:=ex (lA d e);rw[P]at z U V;have HY:=aA P;go_wp2_with (go_at_call 149;refine z.mono ?_;clear z;rintro x w6 ⟨rfl,v⟩;have f:=aA ((v.block (aI t)).trans t);have G:=aA (M.trans v);have z0:=aP f 0 16 (by simp[aO]);have z1:=bE f 0 16;have z2:=aI f);have X:Hid (HB (w6.setCells (n+1) 0 (bC y)) (n+1) (bC y) 22):=bO f (by simp[aO])
   have j:=aA (G.setsOwn (b:=n+1) (by have:=R.out;omega) (bC y) 0);refine bI (jA rfl _ _ (n+1) _ _ _ _ rfl X underlying22 rfl (rq _)) rfl ?_;exact⟨by rw[HY.out];rfl,j⟩
def nY(k:Nat)(e:Nat->aK):Nat->aK:=fun i=>if i<k then e i else aQ
def Bb(e:Nat->aK):cB (nY 0 e)=cB fun _=>aQ:=vZ fun i _=>by unfold nY;rw[aF (by omega)]
def zG(k:Nat)(e:Nat->aK):cB (o9 (nY k e) k (e k))=cB (nY (k+1) e):=vZ fun i _=>by
 unfold o9 nY;by_cases h:i=k
 .rw[aG h,aG (by omega),h]
 .rw[aF h]
  by_cases a:i<k
  .rw[aG a,aG (by omega)]
  .rw[aF a,aF (by omega)]
def BQ(e:Nat->aK):cB (nY 35 e)=cB e:=vZ fun i hi=>by unfold nY;rw[aG hi]
def cC(x:Vector UInt8 32):(bC x).length=32:=by simp[bC]
def gE(x:Vector UInt8 32):cN (bC x)=true:=by rw[<-uW];exact mY _
def ab5(c:Vector UInt8 32)(a:Nat)(Q:a<=65535)(w:aB)(P:Kt w):Calls prog 61 #[aE (bC c),.int .i64 (a:Int)] w (RG w (.tuple #[aE (bC (lm c a)),.int .i64 0])):=by
 obtain⟨n,u⟩:=ex w.heap.size;have N:=aA u;have O:=((Gr.refl w).alloc (aC (bC c) 25)).alloc (aC (bC aQ) 22);have R:Hid (HB (((w.alloc (aC (bC c) 25)).alloc (aC (bC aQ) 22)).alloc (aC (cB fun _=>aQ) 29)) n (bC c) 25):=((((Gr.refl _).alloc _).alloc _).block (by simp;omega)).trans (aY _ _ _ u.symm)
 have V:Hid (HB (((w.alloc (aC (bC c) 25)).alloc (aC (bC aQ) 22)).alloc (aC (cB fun _=>aQ) 29)) (n+1) (bC aQ) 22):=(((Gr.refl _).alloc _).block (by simp;omega)).trans (aY _ _ _ (by simp;omega))
 have v:Hid (HB (((w.alloc (aC (bC c) 25)).alloc (aC (bC aQ) 22)).alloc (aC (cB fun _=>aQ) 29)) (n+2) (cB fun _=>aQ) 29):=aY _ _ _ (by simp;omega)
 have S:Hid (Gr w (((w.alloc (aC (bC c) 25)).alloc (aC (bC aQ) 22)).alloc (aC (cB fun _=>aQ) 29))):=O.alloc _;have F:=aA P;have D:=aA (Ao a Q);have G:Hid (lA a (fun i=>fk a i 0 15 (first c a i))=lm c a):=rfl;have z:Hid (∀k,fk a k 0 15 (first c a k)=(fun i=>fk a i 0 15 (first c a i)) k):=fun _=>rfl;generalize(fun i=>fk a i 0 15 (first c a i))=E at*
 go_in;go_wp2_with (go_at_call 99;refine dK (D _) ?_);try simp only[u]
 generalize((w.alloc (aC (bC c) 25)).alloc (aC (bC aQ) 22)).alloc (aC (cB fun _=>aQ) 29)=U0 at*
 go_loopw [12] (fun i wr=>∃k:Nat,k<=35/\i=.int .i64 (k:Int)/\Hid (HB wr n (bC c) 25)/\Hid (HB wr (n+1) (bC aQ) 22)/\Hid (HB wr (n+2) (cB (nY k E)) 29)/\Hid (Gr w wr)) (fun i _=>35-(intOf i).toNat)
 .exact⟨0,by decide,rfl,R,V,by show Hid _;rw[Bb];exact v,S⟩
 .
  obtain⟨k,hk,rfl,s,t,I,o⟩:=hrel;by_cases K:k<35
  .have a1:(k:Int)<35:=by omega
   have a2:=nn k
   have T:=z k;have H:=aA (zG k E);have z0:=aP s 0 32 (by simp[cC]);have z1:=(bJ s 0 32 (by simp[cC])).trans (b_ _ _ (cC c));have m:=Lq c a k wr (F.gr o)
   have l:Hid (∀W,Gr wr W->CG 100 #[.int .i64 (a:Int),.int .i64 (k:Int),.int .i64 0,.int .i64 15,aE (bC (first c a k))] W (aE (bC (E k)))):=fun W hW=>by
    rw[<-T];exact Fl a k 0 15 _ (aH rfl) (aH rfl) W (F.gr (o.trans hW))
   generalize first c a k=f at*
   have b1:=aO (E k);have b2:=cZ (E k);generalize Z:E k=x at*
   go_wp2_with (first
    |(go_at_call 101;refine m.mono ?_;clear m;rintro y w1 ⟨rfl,p⟩)
    |(go_at_call 100;refine(l w1 p).mono ?_;clear l;rintro y M ⟨rfl,J⟩;have g:=aA (p.trans J);have d:=aA ((g.block (aI I)).trans I);have y0:hasRow M (aD (n+1+1) (k*16)) 16=true:=aP d (k*16) 16 (by rw[en];omega);have y1:gz M (aD (n+1+1) (k*16)) 16=true:=bE d (k*16) 16;have y2:n+1+1<M.heap.size:=aI d))
   go_roundw
   .
    refine⟨k+1,by omega,by go_num,?_,?_,?_,?_⟩
    .exact(cD (by omega) _ _ _).trans ((g.block (aI s)).trans s)
    .exact(cD (by omega) _ _ _).trans ((g.block (aI t)).trans t)
    .show Hid _
     rw[<-H.out];exact wP d k K x
    .exact(o.trans g).setsOwn (b:=n+1+1) (by have:=N.out;omega) (bC x) _
   .simp[intOf];omega
  .obtain rfl:k=35:=by omega
   have j:=I.out;rw[BQ]at j;have r:=Kb a Q E wr (F.gr o);rw[G.out]at r;have z0:hasRow wr (aD (n+1+1) 0) 560=true:=aP j 0 560 (by rw[en];decide);have z1:rowAt wr (aD (n+1+1) 0) 560=cB E:=(bJ j 0 560 (by rw[en];decide)).trans (b_ _ _ (en E));have X:=aO (lm c a);have Y:=cZ (lm c a);obtain⟨y,L⟩:=ex (lm c a);rw[L]at r X Y;have U:=aA L;go_wp2_with (go_at_call 102;refine r.mono ?_;clear r;rintro x w6 ⟨rfl,q⟩;have h:=aA ((q.block (aI t)).trans t);have B:=aA (o.trans q);have q0:=aP h 0 16 (by simp[aO]);have q1:=bE h 0 16;have q2:=aI h);have v:Hid (HB (w6.setCells (n+1) 0 (bC y)) (n+1) (bC y) 22):=bO h (by simp[aO])
   have C:=aA (B.setsOwn (b:=n+1) (by have:=N.out;omega) (bC y) 0);refine bI (jA rfl _ _ (n+1) _ _ _ _ rfl v underlying22 rfl (rq _)) rfl ?_;exact⟨by rw[U.out];rfl,C⟩
def cY(l:List Nat):bF:=l.map fun x:Nat=>Value.int .i64 (x:Int)
def mh(l:List Nat):(cY l).length=l.length:=by simp[cY]
def VJ(l:List Nat)(k x:Nat):(cY l).set k (.int .i64 (x:Int))=cY (l.set k x):=by unfold cY;rw[<-tX]
def wM(l:List Nat):cN (cY l)=true:=by
 simp only[cN,cY,v6,gY];intro b _;rfl
def pH(l:List Nat)(k:Nat)(h:k<l.length):(cY l)[k]? =some (.int .i64 (l[k]:Int)):=by
 unfold cY;rw[fo,cO h];rfl
def fG(l:List Nat):List Nat:=l++List.replicate (35-l.length) 0
def BZ(l:List Nat)(h:l.length<=35):(fG l).length=35:=by unfold fG;simp;omega
def tn(l:List Nat)(h:l.length<35)(x:Nat):(fG l).set l.length x=fG (l++[x]):=by
 unfold fG;obtain⟨m,a⟩:∃m,35-l.length=m+1:=⟨34-l.length,by omega⟩;rw[pu _ _ (aU _),qR,a,Fc,eZ,bV,jN,show 35-(l.length+1)=m by omega];simp
def wV(l:List Nat)(x:Nat):g_ (l++[x])=g_ l+(15-x):=by unfold g_;simp
def JH(l:aM)(b:UInt8):ek (l++[b])=ek l++[xW b]++[yB b]:=by unfold ek;simp
def Kd(l:aM)(h:l.length=16):(((fG (ek l)).set 32 (g_ (ek l)/256)).set 33 (g_ (ek l)/16%16)).set 34 (g_ (ek l)%16)=i_ l:=by
 have d:(ek l).length=32:=by rw[tQ];omega
 unfold i_;generalize g_ (ek l)/256=a;generalize g_ (ek l)/16%16=b;generalize g_ (ek l)%16=c;have e:=tn (ek l) (by omega) a;have f:=tn (ek l++[a]) (by simp;omega) b;have g:=tn (ek l++[a]++[b]) (by simp;omega) c;simp only[bV,jN,d]at e f g;rw[e,f,g];unfold fG;simp[d]
def JR:∀x:Fin 512,bits .and .i64 (x.val:Int) 15=((x.val%16:Nat):Int):=by decide+kernel
def qZ{W:World}{b:Nat}{t:TypeId}{l:List Nat}(h:W.heap[b]? =some (aC (cY l) t)) (k x:Nat):(W.setCell ⟨b,k,none⟩ (.int .i64 (x:Int))).heap[b]? =some (aC (cY (l.set k x)) t):=by
 rw[fC W b k _ t _ h,<-VJ];simp
def MA(X:Nat)(l:List Nat)(s j d:Nat)(W:World)(E:d<=15)(F:j<35)(H:s<=1000)(G:l.length=35)(b:W.heap[X]? =some (aC (cY l) 270))
  (c:W.heap[X+1]? =some (.cells #[.int .i64 (j:Int)] 3)) (g:W.heap[X+1+1]? =some (.cells #[.int .i64 (s:Int)] 3)):
  Calls prog 203 #[.int .i64 (d:Int),.pointer (some ⟨X,0,none⟩),.pointer (some ⟨X+1,0,none⟩),.pointer (some ⟨X+1+1,0,none⟩)] W fun e a=>e=.returned (.tuple #[])/\
   a.heap[X]? =some (aC (cY (l.set j d)) 270)/\a.heap[X+1]? =some (.cells #[.int .i64 ((j+1:Nat):Int)] 3)/\a.heap[X+1+1]? =some (.cells #[.int .i64 ((s+(15-d):Nat):Int)] 3)/\
   (∀k,Gr k W->k.heap.size<=X->Gr k a)/\(∀i,i<X->a.heap[i]? =W.heap[i]?):=by
 have w:W.cell? ⟨X+1,0,none⟩=some (.int .i64 (j:Int)):=bH (cs:=[.int .i64 (j:Int)]) c 0;have x:W.cell? ⟨X+1+1,0,none⟩=some (.int .i64 (s:Int)):=bH (cs:=[.int .i64 (s:Int)]) g 0;have v:W.cell? ⟨X,j,none⟩=some (.int .i64 (l[j]:Int)):=(bH b j).trans (pH l j (by omega));have B:=ee b j;have C:=ee (cs:=[.int .i64 (j:Int)]) c 0;have D:=ee (cs:=[.int .i64 (s:Int)]) g 0;have I:=nn j
 have J:(j:Int)<35:=by omega
 have y:IntKind.i64.wrap ((j:Int)+1)=((j+1:Nat):Int):=by rw[cV];omega
 have p:IntKind.i64.wrap (15-(d:Int))=((15-d:Nat):Int):=by rw[cV];omega
 obtain⟨q,t⟩:=ex (15-d);rw[t]at p|-
 have z:IntKind.i64.wrap ((s:Int)+(q:Int))=((s+q:Nat):Int):=by rw[cV];omega
 have m:=aA b;have n:=aA c;have o:=aA g;clear b c g;go_in;go_wp2_with fail;refine pM (fn:=Tryz.f203) rfl rfl ?_;refine⟨rfl,?_,?_,?_,?_,?_⟩
 .rw[cG _ ⟨X+1,0,none⟩ X _ (by show X≠X+1;omega),cG _ ⟨X+1+1,0,none⟩ X _ (by show X≠X+1+1;omega)]
  exact qZ m j d
 .have h:=(cG (W.setCell ⟨X,j,none⟩ (.int .i64 (d:Int))) ⟨X+1+1,0,none⟩ (X+1) (.int .i64 ((s:Int)+(q:Int))) (by show X+1≠X+1+1;omega)).trans ((cG W ⟨X,j,none⟩ (X+1) (.int .i64 (d:Int)) (by show X+1≠X;omega)).trans n)
  rw[fC _ (X+1) 0 _ _ _ h];simp
 .rw[cG _ ⟨X+1,0,none⟩ (X+1+1) _ (by show X+1+1≠X+1;omega)]
  have h:=(cG W ⟨X,j,none⟩ (X+1+1) (.int .i64 (d:Int)) (by show X+1+1≠X;omega)).trans o;rw[fC _ (X+1+1) 0 _ _ _ h];simp
 .intro k r u
  exact((r.setOwn u _).setOwn (by omega) _).setOwn (by omega) _
 .intro i hi
  rw[cG _ ⟨X+1,0,none⟩ i _ (by show i≠X+1;omega),cG _ ⟨X+1+1,0,none⟩ i _ (by show i≠X+1+1;omega),cG _ ⟨X,j,none⟩ i _ (by show i≠X;omega)]
def DZ(w:aB):Sem.run prog (zeroValue 270) w=.ok (aE (cY (fG []))) w:=by kernel_rfl
@[go_sem] def ahL:dZ prog 270 =true:=by kernel_rfl
@[go_sem] def ag6:prog.cellsOf 270 =35:=by kernel_rfl
def Wg(l:List Nat)(h:l.length=35):(prog.info? 270).map (fun x=>x.size)=some (cY l).toArray.size:=by
 rw[bQ,mh,h];kernel_rfl
def It(d:aK)(w:aB):Calls prog 170 #[aE (bC d)] w (RG w (aE (cY (i_ d.toList)))):=by
 obtain⟨n,hn⟩:=ex w.heap.size;have L:=aA hn;have eg:∀args w,(callFunc 203 args).run prog w=.ok (.enter 203 args) w:=lV func203 (by kernel_rfl) rfl;have b1:=aO d;have R:Hid (fG []=fG (ek (d.toList.take 0))):=rfl;obtain⟨z,hz⟩:=ex (fG []);have ad:∀w,Sem.run prog (zeroValue 270) w=.ok (aE (cY z)) w:=fun w=>by rw[<-hz];exact DZ w
 rw[hz]at R;have ac:z.length=35:=by rw[<-hz];rfl
 obtain⟨T,D⟩:=ex (((((w.alloc (aC (bC d) 22)).alloc (aC (cY z) 270)).alloc (aC (cY z) 270)).alloc (.cells #[.int .i64 0] 3)).alloc (.cells #[.int .i64 0] 3));have g1:=(Gr.refl w).alloc (aC (bC d) 22)
 have H1:Hid (HB T (n+1) (cY z) 270):=by
  show _=_;rw[<-D];exact(((((Gr.refl _).alloc _).alloc _).alloc _).block (by simp;omega)).trans (aY _ _ _ (by simp;omega))
 have H2:Hid (HB T (n+1+1) (cY z) 270):=by
  show _=_;rw[<-D];exact((((Gr.refl _).alloc _).alloc _).block (by simp;omega)).trans (aY _ _ _ (by simp;omega))
 have H3:Hid (T.heap[n+1+1+1]? =some (.cells #[.int .i64 0] 3)):=by
  show _=_;rw[<-D];exact(((Gr.refl _).alloc _).block (by simp;omega)).trans (aY _ _ _ (by simp;omega))
 have H4:Hid (T.heap[n+1+1+1+1]? =some (.cells #[.int .i64 0] 3)):=by
  show _=_;rw[<-D];exact aY _ _ _ (by simp;omega)
 have HG:Hid (Gr w T):=D▸(((g1.alloc _).alloc _).alloc _).alloc _
 replace D:=aA D;go_in;go_wp2_with fail;rw[D.out]
 go_loopw [11] (fun i wr=>∃k:Nat,k<=16/\i=.int .i64 (k:Int)/\Hid (HB wr (n+1) (cY z) 270)/\Hid (HB wr (n+1+1) (cY (fG (ek (d.toList.take k)))) 270)/\Hid (wr.heap[n+1+1+1]? =some (.cells #[.int .i64 ((2*k:Nat):Int)] 3))/\Hid (wr.heap[n+1+1+1+1]? =some (.cells #[.int .i64 ((g_ (ek (d.toList.take k)):Nat):Int)] 3))/\Hid (Gr w wr)) (fun i _=>16-(intOf i).toNat)
 .exact⟨0,by decide,rfl,H1,by show Hid _;rw[<-R.out];exact H2,H3,H4,HG⟩
 .
  obtain⟨k,hk,rfl,h1,C,h3,U,hG⟩:=hrel;by_cases W:k<16
  .have ai:(k:Int)<16:=by omega
   have ah:=zO 22 underlying22 d k W;have HD:Hid (ek (d.toList.take (k+1))=ek (d.toList.take k)++[xW d[k]]++[yB d[k]]):=by
    show _=_;rw[<-JH];congr 1;rw[eF (by simpa using W)];simp
   have N:=aA (show (ek (d.toList.take k)).length=2*k by rw[tQ];simp;omega)
   have y:Hid (g_ (ek (d.toList.take k))<=480):=by have:=AP (ek (d.toList.take k));rw[N.out]at this;show _<=_;omega
   generalize ek (d.toList.take k)=M at*
   have V:=Fd d[k];have hx:=d[k].toNat_lt;obtain⟨q,hq,X,Y⟩:∃q:Nat,(d[k].toNat:Int)/16=(q:Int)/\q<=15/\xW d[k]=q:=⟨d[k].toNat/16,by omega,by omega,rfl⟩;obtain⟨r,hr,Z,a5⟩:∃r:Nat,d[k].toNat%16=r/\r<=15/\yB d[k]=r:=⟨d[k].toNat%16,rfl,by omega,rfl⟩;rw[hr]at V;have G:=HD.out;rw[Y,a5]at G;generalize d[k].toNat=x at*
   have F:=MA (n+1+1) (fG M) (g_ M) (2*k) q wr X (by omega) (by have:=y.out;omega) (BZ _ (by have:=N.out;omega)) C h3 U;have e1:=tn M (by have:=N.out;omega) q;rw[N.out]at e1;rw[e1,<-wV]at F;have H:=aA (show (M++[q]).length=2*k+1 by simp[N.out])
   have a7:=aA (show g_ (M++[q])<=500 by rw[wV];have:=y.out;omega)
   generalize J:M++[q]=I at*
   have e2:=tn I (by have:=H.out;omega) r;rw[H.out]at e2;go_wp2_with (first
    |(go_at_call 203;refine F.mono ?_;clear F;rintro e w1 ⟨rfl,l,m,o,p,t⟩;have P:=aA (km l (km m (km o (km p t))));clear l m o p t)
    |(go_at_call 203;refine(MA (n+1+1) (fG I) (g_ I) (2*k+1) r w1 Z (by omega) (by have:=a7.out;omega) (BZ _ (by have:=H.out;omega)) P.1 P.2.1 P.2.2.1).mono ?_;rintro e w2 ⟨rfl,l,m,o,p,t⟩;have Q:=aA (km l (km m (km o (km p t))));clear l m o p t))
   go_roundw
   .
    refine⟨k+1,by omega,by go_num,?_,?_,?_,?_,?_⟩
    .exact(Q.2.2.2.2 _ (by omega)).trans ((P.2.2.2.2 _ (by omega)).trans h1)
    .show Hid _
     rw[G,<-e2];exact Q.1
    .exact Q.2.1
    .show Hid _
     rw[G,wV];exact Q.2.2.1
    .exact Q.2.2.2.1 w (P.2.2.2.1 w hG (by have:=L.out;omega)) (by have:=L.out;omega)
   .simp[intOf];omega
  .obtain rfl:k=16:=by omega
   have J:d.toList.take 16=d.toList:=eq (by simp);rw[J]at C U;have h:=aA (Kd d.toList (by simp));have y:Hid (g_ (ek d.toList)<=480):=by have:=AP (ek d.toList);rw[tQ]at this;simp at this;show _<=_;omega
   have O:Hid ((fG (ek d.toList)).length=35):=BZ _ (by rw[tQ];simp);obtain⟨K,E⟩:=ex (i_ d.toList);rw[E]at h;replace E:=aA E;generalize g_ (ek d.toList)=s at*
   generalize fG (ek d.toList)=pd at*
   obtain⟨a,ha⟩:=ex (s/256);obtain⟨c,hc⟩:=ex (s/16);obtain⟨b,hb⟩:=ex (c%16);obtain⟨g,hg⟩:=ex (s%16);have hs:=y.out;have a1:(s:Int)/256=(a:Int):=by omega
   have a2:(s:Int)/16=(c:Int):=by omega
   have a3:bits .and .i64 (c:Int) 15=(b:Int):=(JR ⟨c,by omega⟩).trans (by show((c%16:Nat):Int)=_;rw[hb]);have a4:bits .and .i64 (s:Int) 15=(g:Int):=(JR ⟨s,by omega⟩).trans (by show((s%16:Nat):Int)=_;rw[hg]);rw[ha,hc,hb,hg]at h;have c4:wr.cell? (aD (n+1+1+1+1) 0)=some (.int .i64 (s:Int)):=bH (cs:=[.int .i64 (s:Int)]) U 0;have c1:∀j,j<35->∃v,wr.cell? (aD (n+1+1) j)=some v:=fun j hj=>⟨_,(bH C j).trans (pH pd j (by have:=O.out;omega))⟩;obtain⟨aj,ae⟩:=c1 32 (aH rfl);obtain⟨ak,af⟩:=c1 33 (aH rfl);obtain⟨al,ag⟩:=c1 34 (aH rfl);have a9:=ee C 32;have aa:=ee C 33;have ab:=ee C 34;have z2:=aI C;have z4:=aI U;clear ha hc hb hg c1 eg ad;go_wp2_with fail
   go_region_held3 (fun u=>u.cell? (aD (n+1+1+1+1) 0)=some (.int .i64 (s:Int))) (first|exact c4|(go_simp;done)) (fail)
   have k2:=qZ (qZ (qZ C 32 a) 33 b) 34 g;rw[h.out]at k2;have K2:=aA k2;have K1:Hid (HB (((wr.setCell (aD (n+1+1) 32) (.int .i64 (a:Int))).setCell (aD (n+1+1) 33) (.int .i64 (b:Int))).setCell (aD (n+1+1) 34) (.int .i64 (g:Int))) (n+1) (cY z) 270):=by
    show _=_;rw[cG _ (aD (n+1+1) 34) (n+1) _ (by show n+1≠n+1+1;omega),cG _ (aD (n+1+1) 33) (n+1) _ (by show n+1≠n+1+1;omega),cG _ (aD (n+1+1) 32) (n+1) _ (by show n+1≠n+1+1;omega)];exact h1
   have KG:Hid (Gr w (((wr.setCell (aD (n+1+1) 32) (.int .i64 (a:Int))).setCell (aD (n+1+1) 33) (.int .i64 (b:Int))).setCell (aD (n+1+1) 34) (.int .i64 (g:Int)))):=((hG.setOwn (by have:=L.out;omega) _).setOwn (by have:=L.out;omega) _).setOwn (by have:=L.out;omega) _;have f:=aA (show K.length=35 by rw[<-h.out];simp[O.out])
   generalize((wr.setCell (aD (n+1+1) 32) (.int .i64 (a:Int))).setCell (aD (n+1+1) 33) (.int .i64 (b:Int))).setCell (aD (n+1+1) 34) (.int .i64 (g:Int))=W3 at*
   have B:Hid (HB W3.drew (n+1) (cY z) 270):=K1
   have S:Hid (HB W3.drew (n+1+1) (cY K) 270):=K2
   have a8:Hid (Gr w W3.drew):=KG.drew;generalize W3.drew=W4 at*
   have z0:=aP B 0 35 (by rw[mh];omega);have z1:=bE B 0 35;have z2:=aI B;have y0:=aP S 0 35 (by rw[mh,f.out];decide);have y1:=(bJ S 0 35 (by rw[mh,f.out];decide)).trans (b_ _ _ (by rw[mh,f.out]));have y3:=wM K;have y4:(cY K).length=35:=by rw[mh,f.out]
   go_wp2_with fail;have HE:Hid (HB (W4.setCells (n+1) 0 (cY K)) (n+1) (cY K) 270):=bO B (by rw[mh,mh,f.out,ac])
   have a6:=aA (a8.setsOwn (b:=n+1) (by have:=L.out;omega) (cY K) 0);refine bI (dY rfl _ _ (n+1) _ _ _ _ rfl HE underlying270 rfl (Wg _ f)) rfl ?_;exact⟨by rw[E.out],a6⟩
def Iy(d:aK)(k:Nat)(a:k<35):(cY (i_ d.toList))[k]? =some (.int .i64 (iG d k:Int)):=by
 rw[pH _ _ (by rw[uk];exact a)];unfold iG;rw[eD,cO (by rw[uk];exact a)];rfl
def adp(a:Nat)(d:aK)(e:Nat->aK)(w:aB)(hK:Kt w):Calls prog 241 #[.int .i64 (a:Int),aE (bC d),aE (cB e)] w (RG w (aE (cB (gF a d e)))):=by
 obtain⟨n,R⟩:=ex w.heap.size;have HN:=aA R;obtain⟨U0,H,Z,C,I,J,D⟩:=CZ R (aC (bC d) 22) (aC (cB e) 215) (aC (cB fun _=>aQ) 29) (aC (cB fun _=>aQ) 29)
 have HK:=aA hK;have b1:=aO d;have L:Hid (∀k,fk a k (iG d k) (15-iG d k) (e k)=gF a d e k):=fun _=>rfl;obtain⟨z,S⟩:∃z,fG []=z:=⟨_,rfl⟩;have U:∀w,Sem.run prog (zeroValue 270) w=.ok (aE (cY z)) w:=fun w=>by rw[<-S];exact DZ w
 have T:(cY z).length=35:=by rw[<-S];rfl
 have K:=aA (Iy d);have s:=aA (It d);have a1:(cY (i_ d.toList)).length=35:=by rw[mh,uk]
 have a2:=wM (i_ d.toList);generalize i_ d.toList=B at*
 replace H:=aA H;have V:=aP C 0 16 (by simp[aO]);have W:=(bJ C 0 16 (by simp[aO])).trans (b_ _ _ (aO d));have X:=aI C;go_in;go_wp2_with (go_at_call 170;rw[H.out];refine bA (s U0) fun Y l=>?_);have f:=l.alloc (aC (cY B) 270);obtain⟨m,Q⟩:=ex Y.heap.size;have K1:=aA ((f.block (aI I)).trans I);have K2:=aA ((f.block (aI J)).trans J);have K3:=aA ((f.block (aI D)).trans D);have K4:Hid (HB (Y.alloc (aC (cY B) 270)) m (cY B) 270):=aY _ _ _ Q.symm
 have KG:=aA (Z.trans f);have HM:Hid (n+1+1+1<m):=by have F:=aI D;have:=l.size;show _<_;omega
 rw[Q];generalize Y.alloc (aC (cY B) 270)=W1 at*
 generalize hE:gF a d e=E at*
 go_loopw [12] (fun i wr=>∃k:Nat,k<=35/\i=.int .i64 (k:Int)/\Hid (HB wr (n+1) (cB e) 215)/\Hid (HB wr (n+1+1) (cB fun _=>aQ) 29)/\Hid (HB wr (n+1+1+1) (cB (nY k E)) 29)/\Hid (HB wr m (cY B) 270)/\Hid (Gr w wr)) (fun i _=>35-(intOf i).toNat)
 .exact⟨0,by decide,rfl,K1,K2,by show Hid _;rw[Bb];exact K3,K4,KG⟩
 .
  obtain⟨k,hk,rfl,t,y,F,G,O⟩:=hrel;by_cases o:k<35
  .have a3:(k:Int)<35:=by omega
   have a4:=nn k
   have N:=aA (zG k E);have P:=uD d k;have HX:=L k;have c4:wr.cell? (aD m k)=some (.int .i64 (iG d k:Int)):=(bH G k).trans (K k o);generalize iG d k=g at*
   have V:=aP t (k*16) 16 (by rw[en];omega);have W:=(bJ t (k*16) 16 (by rw[en];omega)).trans (Ch e k o);have X:=aI t;have q4:=aI G
   have r:Hid (∀p:GD,Calls prog 100 #[.int .i64 (a:Int),.int .i64 (k:Int),.int .i64 (g:Int),.int .i64 15,aE (bC (e k))] (gw wr p) fun e w'=>e=.returned (aE (bC (E k)))/\∃q:GD,w'=gw wr q):=fun p=>by
    rw[<-HX];exact eE (Fl a k g 15 _ P (aH rfl) _ (HK.gr (O.trans (cK wr p))))
   have b5:=aO (E k);have b6:=cZ (E k);generalize E k=x at*
   generalize e k=v at*
   go_wp2_with fail;refine jd 10 (fun u=>∃q:GD,u=gw wr q) (by kernel_rfl) (by kernel_rfl) (nM wr) ?_;simp only[gR,fy,ib,gd];repeat (go_big_quiet_step ((go_at_call 100;with_reducible exact r.out _)))
   refine cX ?_;rintro _ ⟨q,rfl⟩;have c:=aA (cK wr q);generalize gw wr q=w2 at*
   have j:=aA ((c.block (aI F)).trans F);have y0:=aP j (k*16) 16 (by rw[en];omega);have y1:=bE j (k*16) 16;go_wp2_with fail;go_roundw
   .
    refine⟨k+1,by omega,by go_num,?_,?_,?_,?_,?_⟩
    .exact(cD (by omega) _ _ _).trans ((c.block (aI t)).trans t)
    .exact(cD (by omega) _ _ _).trans ((c.block (aI y)).trans y)
    .show Hid _
     rw[<-N.out];exact wP j k o x
    .exact(cD (by have:=HM.out;omega) _ _ _).trans ((c.block (aI G)).trans G)
    .exact(O.trans c).setsOwn (b:=n+1+1+1) (by have:=HN.out;omega) (bC x) _
   .simp[intOf];omega
  .obtain rfl:k=35:=by omega
   have h:=F.out;rw[BQ]at h;have z0:=aP h 0 560 (by rw[en];decide);have z1:=(bJ h 0 560 (by rw[en];decide)).trans (b_ _ _ (en E));have z3:=aP y 0 560 (by rw[en];decide);have z4:=bE y 0 560;have b5:=en E;have b6:=uU E;go_wp2_with fail;have HE:Hid (HB (wr.setCells (n+1+1) 0 (cB E)) (n+1+1) (cB E) 29):=bO y (by rw[en,en])
   have M:=aA (O.setsOwn (b:=n+1+1) (by have:=HN.out;omega) (cB E) 0);refine bI (dY rfl _ _ (n+1+1) _ _ _ _ rfl HE underlying29 rfl (VI _)) rfl ?_;exact⟨by rw[<-hE],M⟩
def adO(c:Vector UInt8 32)(a:Nat)(hl:a<=65535)(d:aK)(w:aB)(hK:Kt w):Calls prog 118 #[aE (bC c),.int .i64 (a:Int),aE (bC d)] w (RG w (.tuple #[aE (cB (kI c a d)),.int .i64 0])):=by
 obtain⟨n,U⟩:=ex w.heap.size;have HN:=aA U;obtain⟨U0,K,HG,L,F,M,G⟩:=CZ U (aC (bC c) 25) (aC (bC d) 22) (aC (cB fun _=>aQ) 215) (aC (cB fun _=>aQ) 215)
 have HK:=aA hK;have b1:=aO d;have O:Hid (∀k,fk a k 0 (iG d k) (first c a k)=kI c a d k):=fun _=>rfl;obtain⟨z,V⟩:∃z,fG []=z:=⟨_,rfl⟩;have X:∀w,Sem.run prog (zeroValue 270) w=.ok (aE (cY z)) w:=fun w=>by rw[<-V];exact DZ w
 have W:(cY z).length=35:=by rw[<-V];rfl
 have N:=aA (Iy d);have t:=aA (It d);have Q:=aA (Ao a hl);have a1:(cY (i_ d.toList)).length=35:=by rw[mh,uk]
 have a2:=wM (i_ d.toList);generalize i_ d.toList=D at*
 replace K:=aA K;have Y:=aP F 0 16 (by simp[aO]);have Z:=(bJ F 0 16 (by simp[aO])).trans (b_ _ _ (aO d));have q2:=aI F;go_in;go_wp2_with (first|(go_at_call 99;refine dK (Q _) ?_)|(go_at_call 170;rw[K.out];refine bA (t U0) fun w1 o=>?_));have h:=o.alloc (aC (cY D) 270);obtain⟨m,T⟩:=ex w1.heap.size;have K0:=aA ((h.block (aI L)).trans L);have K2:=aA ((h.block (aI M)).trans M);have K3:=aA ((h.block (aI G)).trans G);have K4:Hid (HB (w1.alloc (aC (cY D) 270)) m (cY D) 270):=aY _ _ _ T.symm
 have KG:=aA (HG.trans h);have HM:Hid (n+1+1+1<m):=by have H:=aI G;have:=o.size;show _<_;omega
 rw[T];generalize w1.alloc (aC (cY D) 270)=W1 at*
 generalize hE:kI c a d=E at*
 go_loopw [17] (fun i wr=>∃k:Nat,k<=35/\i=.int .i64 (k:Int)/\Hid (HB wr n (bC c) 25)/\Hid (HB wr (n+1+1) (cB fun _=>aQ) 215)/\Hid (HB wr (n+1+1+1) (cB (nY k E)) 215)/\Hid (HB wr m (cY D) 270)/\Hid (Gr w wr)) (fun i _=>35-(intOf i).toNat)
 .exact⟨0,by decide,rfl,K0,K2,by show Hid _;rw[Bb];exact K3,K4,KG⟩
 .
  obtain⟨k,hk,rfl,y,B,H,I,J⟩:=hrel;by_cases C:k<35
  .have a3:(k:Int)<35:=by omega
   have a4:=nn k
   have R:=aA (zG k E);have S:=uD d k;have HX:=O k;have c4:wr.cell? (aD m k)=some (.int .i64 (iG d k:Int)):=(bH I k).trans (N k C);generalize iG d k=g at*
   have Y:=aP y 0 32 (by simp[cC]);have Z:=(bJ y 0 32 (by simp[cC])).trans (b_ _ _ (cC c));have q2:=aI y;have q4:=aI I;have s:Hid (∀p:GD,Calls prog 101 #[aE (bC c),.int .i64 (a:Int),.int .i64 (k:Int)] (gw wr p) fun e w'=>e=.returned (aE (bC (first c a k)))/\∃q:GD,w'=gw wr q):=fun p=>eE (Lq c a k _ (HK.gr (J.trans (cK wr p))))
   have r:Hid (∀p:GD,Calls prog 100 #[.int .i64 (a:Int),.int .i64 (k:Int),.int .i64 0,.int .i64 (g:Int),aE (bC (first c a k))] (gw wr p) fun e w'=>e=.returned (aE (bC (E k)))/\∃q:GD,w'=gw wr q):=fun p=>by
    rw[<-HX];exact eE (Fl a k 0 g _ (bW _) S _ (HK.gr (J.trans (cK wr p))))
   have b5:=aO (E k);have b6:=cZ (E k);generalize E k=x at*
   generalize first c a k=v at*
   go_wp2_with fail;refine jd 11 (fun u=>∃q:GD,u=gw wr q) (by kernel_rfl) (by kernel_rfl) (nM wr) ?_;simp only[gR,fy,ib,gd];repeat (go_big_quiet_step (first|(go_at_call 101;with_reducible exact s.out _)|(go_at_call 100;with_reducible exact r.out _)))
   refine cX ?_;rintro _ ⟨q,rfl⟩;have f:=aA (cK wr q);generalize gw wr q=w2 at*
   have l:=aA ((f.block (aI H)).trans H);have y0:=aP l (k*16) 16 (by rw[en];omega);have y1:=bE l (k*16) 16;go_wp2_with fail;go_roundw
   .
    refine⟨k+1,by omega,by go_num,?_,?_,?_,?_,?_⟩
    .exact(cD (by omega) _ _ _).trans ((f.block (aI y)).trans y)
    .exact(cD (by omega) _ _ _).trans ((f.block (aI B)).trans B)
    .show Hid _
     rw[<-R.out];exact wP l k C x
    .exact(cD (by have:=HM.out;omega) _ _ _).trans ((f.block (aI I)).trans I)
    .exact(J.trans f).setsOwn (b:=n+1+1+1) (by have:=HN.out;omega) (bC x) _
   .simp[intOf];omega
  .obtain rfl:k=35:=by omega
   have j:=H.out;rw[BQ]at j;have z0:=aP j 0 560 (by rw[en];decide);have z1:=(bJ j 0 560 (by rw[en];decide)).trans (b_ _ _ (en E));have z3:=aP B 0 560 (by rw[en];decide);have z4:=bE B 0 560;have b5:=en E;have b6:=uU E;go_wp2_with fail;have HE:Hid (HB (wr.setCells (n+1+1) 0 (cB E)) (n+1+1) (cB E) 215):=bO B (by rw[en,en])
   have P:=aA (J.setsOwn (b:=n+1+1) (by have:=HN.out;omega) (cB E) 0);refine bI (jA rfl _ _ (n+1+1) _ _ _ _ rfl HE underlying215 rfl (acQ _)) rfl ?_;exact⟨by rw[<-hE];rfl,P⟩
def YU(a:Nat)(u:a<=65535)(d:aK)(e:Nat->aK)(w:aB)(o:Kt w):Calls prog 209 #[.int .i64 (a:Int),aE (bC d),aE (cB e)] w (RG w (.tuple #[aE (bC (jB a d e)),.int .i64 0])):=by
 obtain⟨n,v⟩:=ex w.heap.size;have C:=aA v;obtain⟨t,p,j,q,r,s⟩:=jP v (aC (bC d) 22) (aC (cB e) 215) (aC (bC aQ) 22)
 have m:=aA (Ao a u);have i:=aA (adp a d e t (o.gr j));have f:Hid (∀W,Gr t W->CG 102 #[.int .i64 (a:Int),aE (cB (gF a d e))] W (.tuple #[aE (bC (jB a d e)),.int .i64 0])):=fun W D=>Kb a u _ W (o.gr (j.trans D));obtain⟨y,z⟩:∃y,jB a d e=y:=⟨_,rfl⟩;rw[z]at f|-
 generalize gF a d e=E at*
 have H:=aO y;have I:=cZ y;replace p:=aA p;have J:=aP q 0 16 (by simp[aO]);have K:=(bJ q 0 16 (by simp[aO])).trans (b_ _ _ (aO d));have L:=aP r 0 560 (by rw[en];decide);have M:=(bJ r 0 560 (by rw[en];decide)).trans (b_ _ _ (en e));go_in;go_wp2_with (first
  |(go_at_call 99;refine dK (m _) ?_;rw[p.out])
  |(go_at_call 241;refine bA i fun F c=>?_)
  |(go_at_call 102;refine bA (f F c) fun G g=>?_;have k:=aA ((j.trans c).trans g);have h:=aA (((c.trans g).block (aI s)).trans s);have N:=aP h 0 16 (by simp[aO]);have O:=bE h 0 16;have P:=aI h))
 have B:Hid (HB (G.setCells (n+1+1) 0 (bC y)) (n+1+1) (bC y) 22):=bO h (by simp[aO])
 have l:=aA (k.setsOwn (b:=n+1+1) (by have:=C.out;omega) (bC y) 0);refine bI (jA rfl _ _ (n+1+1) _ _ _ _ rfl B underlying22 rfl (rq _)) rfl ?_;exact⟨rfl,l⟩
end Go.Proofs.YtjfaogajmoffoaaGreatDoor
