/- Lemmas for VerifyStatus. -/
import Derived.Test.YtjfaogajmoffoaaGreatDoorQPA4
import Derived.WideKeyEntry
set_option maxRecDepth 100000
set_option maxHeartbeats 16000000
set_option linter.all false
namespace Go.Proofs.YtjfaogajmoffoaaGreatDoor
open Go.RowKit Tryz
structure gx where
 a:aK
 n:Int
 h:me n
def gx.ext'{x y:gx}(b:x.a=y.a)(c:x.n=y.n):x=y:=by
 cases x;cases y;simp only at b c;subst b;subst c;rfl
instance : DecidableEq gx := fun x y => if h : x.a = y.a /\ x.n = y.n then .isTrue (gx.ext' h.1 h.2) else .isFalse fun e => h (by rw [e]; exact ⟨rfl, rfl⟩)
structure Rl where
 id:Id
 at_:gx
 h:Int
 r:aK
 leaf:Int
 nh:Int
 nr:aK
def bK(x:Rl):bF:=bC x.id++(ef x.at_.a x.at_.n++(aN x.h x.r++(.int .i64 x.leaf::aN x.nh x.nr)))
def Gh(a:aK)(n:Int):cN (ef a n)=true:=by unfold ef;rw[iI,cZ];rfl
def fM(x:Rl):(bK x).length=84:=by
 unfold bK;simp only[bV,dN,cC,pj,bG]
def pQ(x:Rl):cN (bK x)=true:=by
 unfold bK;rw[iI,iI,iI,gE,Gh,h_];show(true&&(true&&(true&&cN ([Value.int .i64 x.leaf]++aN x.nh x.nr))))=true;rw[iI,h_];rfl
def wG:gx:=⟨aQ,0,⟨by decide,by decide⟩⟩
def ep:Rl:=⟨bM,wG,0,aQ,0,0,aQ⟩
structure Ky where
 n:Int
 h:Int
 r:aK
 lim:Int
 next:Id
def cR(x:Ky):bF:=.int .i64 x.n::(aN x.h x.r++(.int .i64 x.lim::bC x.next))
def mF(x:Ky):(cR x).length=51:=by
 unfold cR;simp only[bV,dN,cC,bG]
def ss(x:Ky):cN (cR x)=true:=by
 unfold cR;show cN ([Value.int .i64 x.n]++(aN x.h x.r++([Value.int .i64 x.lim]++bC x.next)))=true;rw[iI,iI,iI,h_,gE];rfl
def qU:Ky:=⟨0,0,aQ,0,bM⟩
def Ur(f g h k:Nat->Value)(n:Int)(w:aB):(Instr.build 132 #[(0,aE ((List.range 32).map f)),(1,aE ((List.range 17).map g)),(2,aE ((List.range 17).map h)),(3,.int .i64 n),(4,aE ((List.range 17).map k))]).run prog w
  =.ok (aE ((List.range 32).map f++((List.range 17).map g++((List.range 17).map h++(Value.int .i64 n::(List.range 17).map k))))) w:=by kernel_rfl
@[go_sem] def afe (i:Id) (a:aK) (n h:Int) (r:aK) (d b:Int) (c:aK) (w:aB):eG prog 132 #[(0,aE (bC i)),(1,aE (ef a n)),(2,aE (aN h r)),(3,.int .i64 d),(4,aE (aN b c))] w
  =.ok (.value (aE (bC i++(ef a n++(aN h r++(.int .i64 d::aN b c)))))) w:=fe (by
 rw[gi (bC i) 32 (cC i),gi (ef a n) 17 (pj a n),gi (aN h r) 17 (bG h r),gi (aN b c) 17 (bG b c)];exact Ur _ _ _ _ d w)
def Vf(f:Nat->Value)(n l:Int)(w:aB):(Instr.build 181 #[(0,.int .i64 n),(1,aE ((List.range 17).map f)),(2,.int .i64 l)]).run prog w
  =.ok (aE (Value.int .i64 n::((List.range 17).map f++(Value.int .i64 l::bC bM)))) w:=by kernel_rfl
@[go_sem] def ahQ (n h:Int) (r:aK) (l:Int) (w:aB):eG prog 181 #[(0,.int .i64 n),(1,aE (aN h r)),(2,.int .i64 l)] w=.ok (.value (aE (cR ⟨n,h,r,l,bM⟩))) w:=fe (by
 unfold cR;rw[gi (aN h r) 17 (bG h r)];exact Vf _ n l w)
@[go_sem] def aeQ:prog.cellsOf 132 =84:=by kernel_rfl
@[go_sem ↓ high] def aga (w:aB):Sem.run prog (zeroValue 132) w=.ok (aE (bK ep)) w:=by kernel_rfl
@[go_sem ↓] def ahx {P:Program} (b:Operand->Value) (d:Option Tmp) (a:Array (Nat×Operand)) (e:TypeId) (p:String) (c:Array Edge) (g:Option (Nat×Bool)) (w:aB):
  Sem.run P (execOp b ⟨d,.buildSlice 185 1 a,e,p,c,g⟩) w=jI P 185 1 (a.map fun x=>(x.1,b x.2)) w:=rfl
def Zt(f:Nat->Value)(w:aB):(Instr.buildSlice 185 1 #[(0,aE ((List.range 84).map f))]).run prog w=.ok (aR (w.heap.size) 0 1 1) (w.alloc (aC ((List.range 84).map f) 132)):=by kernel_rfl
@[go_sem] def agN (y:Rl) (w:aB):jI prog 185 1 #[(0,aE (bK y))] w=.ok (.value (aR (w.heap.size) 0 1 1)) (w.alloc (aC (bK y) 132)):=qc (by
 rw[gi (bK y) 84 (fM y)];exact Zt _ w)
@[go_sem ↓] def ag4 {P:Program} (b:Operand->Value) (d:Option Tmp) (a:Array (Nat×Operand)) (e:TypeId) (p:String) (c:Array Edge) (g:Option (Nat×Bool)) (w:aB):
  Sem.run P (execOp b ⟨d,.buildSlice 241 1 a,e,p,c,g⟩) w=jI P 241 1 (a.map fun x=>(x.1,b x.2)) w:=rfl
def Qf(f:Nat->Value)(w:aB):(Instr.buildSlice 241 1 #[(0,aE ((List.range 51).map f))]).run prog w=.ok (aR (w.heap.size) 0 1 1) (w.alloc (aC ((List.range 51).map f) 181)):=by kernel_rfl
@[go_sem] def agn (y:Ky) (w:aB):jI prog 241 1 #[(0,aE (cR y))] w=.ok (.value (aR (w.heap.size) 0 1 1)) (w.alloc (aC (cR y) 181)):=qc (by
 rw[gi (cR y) 51 (mF y)];exact Qf _ w)
@[go_sem ↓] def age {P:Program} (b:Operand->Value) (d:Option Tmp) (a:Array (Nat×Operand)) (e:TypeId) (p:String) (c:Array Edge) (g:Option (Nat×Bool)) (w:aB):
  Sem.run P (execOp b ⟨d,.buildSlice 282 1 a,e,p,c,g⟩) w=jI P 282 1 (a.map fun x=>(x.1,b x.2)) w:=rfl
def Zl(f:Nat->Value)(w:aB):(Instr.buildSlice 282 1 #[(0,aE ((List.range 17).map f))]).run prog w=.ok (aR (w.heap.size) 0 1 1) (w.alloc (aC ((List.range 17).map f) 44)):=by kernel_rfl
@[go_sem] def aeF (h:Int) (r:aK) (w:aB):jI prog 282 1 #[(0,aE (aN h r))] w=.ok (.value (aR (w.heap.size) 0 1 1)) (w.alloc (aC (aN h r) 44)):=qc (by
 rw[gi (aN h r) 17 (bG h r)];exact Zl _ w)
structure aaz(W:aB)(b:Nat)(x:Rl):Prop where
 i0:hasRow W (aD b 0) 32=true
 i1:rowAt W (aD b 0) 32=bC x.id
 s0:hasRow W (aD b 32) 17=true
 s1:rowAt W (aD b 32) 17=ef x.at_.a x.at_.n
 p0:hasRow W (aD b 49) 17=true
 p1:rowAt W (aD b 49) 17=aN x.h x.r
 l:W.cell? (aD b 66)=some (.int .i64 x.leaf)
 n0:hasRow W (aD b 67) 17=true
 n1:rowAt W (aD b 67) 17=aN x.nh x.nr
 w0:hasRow W (aD b 0) 84=true
 w1:rowAt W (aD b 0) 84=bK x
 z:b<W.heap.size
def pB{W:aB}{b:Nat}{x:Rl}(h:HB W b (bK x) 132):aaz W b x:=by
 have c:=fM x;refine⟨aP h 0 32 (by omega),(bJ h 0 32 (by omega)).trans ?_,aP h 32 17 (by omega),(bJ h 32 17 (by omega)).trans ?_,aP h 49 17 (by omega),(bJ h 49 17 (by omega)).trans ?_,(bH h 66).trans ?_,aP h 67 17 (by omega),(bJ h 67 17 (by omega)).trans ?_,aP h 0 84 (by omega),(bJ h 0 84 (by omega)).trans (b_ _ _ c),aI h⟩
 .unfold bK;exact gP _ _ _ (cC _)
 .unfold bK;rw[eQ (bC x.id) _ 32 17 32 (cC _) (aU _),gP _ _ _ (pj _ _)]
 .unfold bK;rw[eQ (bC x.id) _ 49 17 32 (cC _) (aH rfl),eQ (ef x.at_.a x.at_.n) _ 17 17 17 (pj _ _) (aU _),gP _ _ _ (bG _ _)]
 .unfold bK;rw[eY (bC x.id) _ 66 32 (cC _) (aH rfl),eY (ef x.at_.a x.at_.n) _ 34 17 (pj _ _) (aH rfl),eY (aN x.h x.r) _ 17 17 (bG _ _) (aU _)];rfl
 .unfold bK;rw[eQ (bC x.id) _ 67 17 32 (cC _) (aH rfl),eQ (ef x.at_.a x.at_.n) _ 35 17 17 (pj _ _) (aH rfl),eQ (aN x.h x.r) _ 18 17 17 (bG _ _) (aH rfl)]
  show dD (.int .i64 x.leaf::aN x.nh x.nr) 1 17=_;rw[mr _ _ _ _ (aH rfl),b_ _ _ (bG _ _)]
section
open Go.Maps (Keyed)
def xQ:Keyed prog 130 :=Keyed.of_law (deep_law_laid yQ (m:=3) (by omega) (oG (by kernel_rfl)) (by kernel_rfl) (by kernel_rfl))
def Vt(d:Nat)(n:Int)(h:me n):prog.keyLits (d+1) 3 [.int .i64 n]=some [.int .i64 n]:=by
 have a:(Lit.int .i64 n).wf=true:=by
  obtain⟨b,c⟩:=h;simp[Lit.wf,IntKind.min,IntKind.max,IntKind.bits,IntKind.signed];omega
 simp[Program.keyLits,underlying3,a]
def RJ(d:Nat)(a:aK):∃l,prog.keyLits (d+2) 42 (bC a)=some l:=by
 have b:prog.cellsOf 42 =16:=by kernel_rfl
 obtain⟨f,c⟩:=Dw (fun i=>prog.keyLits (d+1) 5 (((bC a).drop (i*prog.cellsOf 5)).take (prog.cellsOf 5))) (List.range 16) (fun i hi=>by
  have e:i<16:=by simpa using hi
  rw[cellsByte,ld,kR (by rw[a_];exact e)];simp only[bC,ig,gR,fy];exact⟨_,Ks d _⟩)
 refine⟨f.flatten,?_⟩;simp only[Program.keyLits,underlying42];rw[aG (by rw[a_,b])];simp only[Program.keyLits,underlying5]at c|-
 rw[c];rfl
def Nh(x:gx):∃l,keyOf prog 130 (aE (ef x.a x.n))=some l:=by
 obtain⟨d,k⟩:∃d,prog.types.size=d+2:=by
  have h:2<=prog.types.size:=by decide+kernel
  exact⟨prog.types.size-2,by omega⟩
 have o:prog.keyType 130 =true:=by kernel_rfl
 have m:(Value.agg (ef x.a x.n).toArray).formed prog 130 =true:=by simp[Value.formed,underlying130,NC,pj]
 obtain⟨e,i⟩:=RJ d x.a;have j:=Vt (d+1) x.n x.h;have f:((ef x.a x.n).drop 0).take 16=bC x.a:=by
  unfold ef;rw[gd,us (by rw[aO];exact aU _),eq (by rw[aO];exact aU _)]
 have g:((ef x.a x.n).drop 16).take 1=[.int .i64 x.n]:=by
  unfold ef;rw[sH (by rw[aO];exact aU _),List.drop_eq_nil_of_le (by rw[aO];exact aU _)];rfl
 have p:prog.keyLits (prog.types.size+1) 130 (ef x.a x.n)=some (e++[.int .i64 x.n]):=by
  have b:prog.cellsOf 42 =16:=by kernel_rfl
  have c:prog.cellsOf 3 =1:=by kernel_rfl
  rw[k];unfold Program.keyLits;simp only[underlying130];rw[aG ⟨by rw[pj,NC],by decide+kernel⟩];simp only[List.mapM_cons,List.mapM_nil,b,c,f,g,i,j];rfl
 refine⟨.string (keyBytes (e++[.int .i64 x.n])),?_⟩;unfold keyOf;rw[underlying130];simp only[o,m,zH,vC,Value.cells,wN,p,jm]
noncomputable def lj(x:gx):Lit:=Classical.choose (Nh x)
def ux(x:gx):keyOf prog 130 (aE (ef x.a x.n))=some (lj x):=Classical.choose_spec (Nh x)
def Y3{x y:gx}(h:lj x=lj y):x=y:=by
 have a:=ux x;rw[h]at a;have:=xQ.inj a (ux y);have e:=C' (Value.agg.inj this);unfold ef at e;have:=List.append_inj e (by rw[aO,aO]);refine gx.ext' (F_ this.1) ?_;have b:=this.2;exact(Value.int.inj (List.cons.inj b).1).2
def YB(x:gx):WideAt.IsKeyLit (lj x):=xQ.key (ux x)
end
section
open Go.Maps (Keyed)
open Classical in
noncomputable def vj(v:Value):Option (DataW Value×List MemPlace):=if ∃a n c,v=Value.slice a n c then some (.held v,[])else none
def JV(a:dB)(n c:Nat):vj (.slice a n c)=some (.held (.slice a n c),[]):=aG ⟨a,n,c,rfl⟩
def X5{v:Value}{y:DataW Value×List MemPlace}(h:vj v=some y):(∃a n c,v=.slice a n c)/\y.1=.held v:=by
 unfold vj at h;split at h
 .rename_i b;exact⟨b,by rw[<-iP h]⟩
 .cases h
def qH:DataW Value:=.held (.slice none 0 0)
def CU(w:aB):(zeroValue 185).run prog w=.ok (.slice none 0 0) w:=by kernel_rfl
structure kQ(w:aB)(bm base n:Nat)(D:DataW Value)(G:gx->List Rl):Prop where
 own:w.ownsMap prog 130 vj bm n D
 rows:∀t,∃v,D.atKey (lj t) qH=.held v/\w.ownsRow base 132 84 v (G t).length ((G t).map bK).flatten
 apart:∀t t' v v' k,t≠t'->D.atKey (lj t) qH=.held v->D.atKey (lj t') qH=.held v'->v.ownBlock=some k->v'.ownBlock≠some k
def kQ.gr{w w':aB}{a base n:Nat}{D:DataW Value}{G:gx->List Rl}(h:kQ w a base n D G)(b:Gr w w'):kQ w' a base n D G:=
 ⟨h.own.kept b.grownBy (by simp),fun t=>by
  obtain⟨v,c,d⟩:=h.rows t;exact⟨v,c,d.kept b.grownBy (by cases v.ownBlock<;>simp)⟩,h.apart⟩
def kQ.made{w:aB}{d base:Nat}(h:w.heap[d]? =some (.map #[] 0)):kQ w d base 0 (.map []) (fun _=>[]):=by
 obtain⟨e,b,a,F,_,_⟩:=Cw w prog 130 vj;rw[cM w _]at a;injection a with a;injection a with c h2;subst c;subst h2
 exact⟨⟨#[],0,h,F,aU _,rfl⟩,fun t=>⟨.slice none 0 0,rfl,⟨rfl,.inl ⟨rfl,rfl⟩⟩⟩,fun t f v g k _ c _ hk=>by
  have:v=.slice none 0 0:=(sD c).symm;rw[this]at hk;cases hk⟩
def FP{w:aB}{a base n m:Nat}{e:TypeId}{size:Nat}{D:DataW Value}{R:Value->Option (DataW Value×List MemPlace)}{k:TypeId}{v:Value}{l:bF}(h:w.ownsRow base e size v m l)(f:w.ownsMap prog k R a n D):v.ownBlock≠some a:=by
 intro hb;rcases h.2 with⟨c,_⟩|⟨j,g,i,c,_,hh,_⟩
 .rw[c]at hb;cases hb
 .rw[c]at hb
  have d:j=a:=by simpa[Value.ownBlock]using hb
  obtain⟨o,b,f,_⟩:=f;rw[d,f]at hh;cases hh
def kQ.look{w:aB}{g base n:Nat}{D:DataW Value}{G:gx->List Rl}(h:kQ w g base n D G)(t:gx):
  ∃a m c,D.atKey (lj t) qH=.held (.slice a m c)/\(w.ownsRow base 132 84 (.slice a m c) (G t).length ((G t).map bK).flatten)/\∀W,Gr w W->(Instr.lookup 101 (.map (some g)) (aE (ef t.a t.n)) false).run prog W=.ok (.slice a m c) W:=by
 have f:∀W,Gr w W->∃v,(∃a m c,v=.slice a m c)/\D.atKey (lj t) qH=.held v/\(Instr.lookup 101 (.map (some g)) (aE (ef t.a t.n)) false).run prog W=.ok v W:=by
  intro W i;obtain⟨v,r,b,p⟩:=(h.gr i).own.lookup xQ underlying101 (CU W) (JV none 0 0) (ux t);obtain⟨l,o⟩:=X5 p;exact⟨v,l,o,b⟩
 obtain⟨v,⟨a,m,c,rfl⟩,j,_⟩:=f w (Gr.refl w);obtain⟨u,e,q⟩:=h.rows t;rw[j]at e;have k:=sD e;subst k;refine⟨a,m,c,j,q,fun W i=>?_⟩;obtain⟨s,_,d,b⟩:=f W i;rw[j]at d;rw[sD d];exact b
def xV{w w':aB}{base:Nat}{e:TypeId}{size:Nat}{v:Value}{n:Nat}{d:bF}(h:w.ownsRow base e size v n d)(m:∀k,v.ownBlock=some k->w'.heap[k]? =w.heap[k]?):w'.ownsRow base e size v n d:=by
 obtain⟨f,i⟩:=h;refine⟨f,i.imp id ?_⟩;rintro⟨g,a,b,c,j,l,r⟩;exact⟨g,a,b,c,j,(m g (by rw[c];rfl)).trans l,r⟩
def kQ.put{w F:aB}{B base n O:Nat}{D:DataW Value}{G:gx->List Rl}(h:kQ w B base n D G)(t:gx)(y:Rl){v:Value}(I:D.atKey (lj t) qH=.held v){a:dB}{m c:Nat}
  (R:F.ownsMap prog 130 vj B O (D.put (lj t) (.held (.slice a m c)))) (Q:∀k,k<w.heap.size->v.ownBlock≠some k->k≠B->F.heap[k]? =w.heap[k]?)
  (S:F.ownsRow base 132 84 (.slice a m c) (G t++[y]).length ((G t++[y]).map bK).flatten) (q:(Value.slice a m c).ownBlock=v.ownBlock\/∃k,(Value.slice a m c).ownBlock=some k/\w.heap.size<=k):
  kQ F B base O (D.put (lj t) (.held (.slice a m c))) (fun g=>if g=t then G t++[y]else G g):=by
 have P:=h.own.isMap;have E:=YB t;have i:∀g J,D.atKey (lj g) qH=.held J->∀k,J.ownBlock=some k->k<w.heap.size/\k≠B:=by
  intro g J j k o;obtain⟨r,l,N⟩:=h.rows g;rw[j]at l;rw[sD l]at o;refine⟨(N.lt k o).2,fun e=>?_⟩;subst e;exact FP N h.own o
 have p:(D.put (lj t) (.held (.slice a m c))).atKey (lj t) qH=.held (.slice a m c):=Maps.atKey_put_same P E _ _;have f:∀g,g≠t->(D.put (lj t) (.held (.slice a m c))).atKey (lj g) qH=D.atKey (lj g) qH:=fun g x=>Maps.atKey_put_other (fun e=>x (Y3 e)) _ _;refine⟨R,fun g=>?_,fun z u K r k d j l b=>?_⟩
 .by_cases x:g=t
  .subst x
   refine⟨_,p,?_⟩;rw[aG rfl];exact S
  .rw[f g x,aF x]
   obtain⟨r,j,l⟩:=h.rows g;refine⟨r,j,xV l fun k C=>?_⟩;obtain⟨U,V⟩:=i g r j k C;exact Q k U (h.apart g t r v k x j I C) V
 .by_cases L:z=t
  .subst L
   rw[p]at j;rw[f u (td d)]at l;have H:=(sD j).symm;rw[H]at b;rcases q with s|⟨T,s,o⟩
   .rw[s]at b;exact h.apart z u v r k d I l b
   .rw[s]at b
    injection b with b;intro e;have:=(i u r l k e).1;omega
  .rw[f z L]at j
   by_cases M:u=t
   .subst M
    rw[p]at l;have H:=(sD l).symm;rw[H];rcases q with s|⟨T,s,o⟩
    .rw[s];exact h.apart z u K v k d j I b
    .rw[s]
     intro e;injection e with e;have:=(i z K j k b).1;omega
   .rw[f u M]at l
    exact h.apart z u K r k d j l b
def G'{c:Type}{a b:c}{w w':aB}(h:Result.ok a w=.ok b w'):a=b:=by cases h;rfl
def WV{c:Type}{a b:c}{w w':aB}(h:Result.ok a w=.ok b w'):w=w':=by cases h;rfl
def Zn:WideMaps.KeyLaw prog 130 :=deep_law_laid yQ (m:=3) (by omega) (oG (by kernel_rfl)) (by kernel_rfl) (by kernel_rfl)
def kQ.entry{w:aB}{i base n:Nat}{D:DataW Value}{G:gx->List Rl}(h:kQ w i base n D G)(hn:n<=1000)(t:gx):
  ∃a m c Q P,(Instr.mapEntry 101 (.map (some i)) (aE (ef t.a t.n))).run prog w=.ok (.tuple #[.slice a m c,.int .i64 (Q:Nat)]) P/\w.mapTurned P i/\
   P.ownsRow base 132 84 (.slice a m c) (G t).length ((G t).map bK).flatten/\
   ∀(y:Rl) (H:aB) (o:dB) (m' p:Nat),P.grownBy H (Value.slice a m c).ownBlock->H.ownsRow base 132 84 (.slice o m' p) (G t++[y]).length ((G t++[y]).map bK).flatten->
    ((Value.slice o m' p).ownBlock=(Value.slice a m c).ownBlock\/(Value.slice o m' p).ownBlock=some P.heap.size)->
    ∃w3,(Instr.entryStore 101 (.map (some i)) (.int .i64 (Q:Nat)) (.slice o m' p)).run prog H=.ok () w3/\(∃D',kQ w3 i base (n+1) D' (fun t'=>if t'=t then G t++[y]else G t'))/\H.mapTurned w3 i:=by
 obtain⟨a,m,c,U,ho,C⟩:=h.look t;have M:=C w (Gr.refl w);obtain⟨es,u,l,F,hs,hD⟩:=id h.own;obtain⟨v0,Q,v,b,N,O,x⟩:=WideElems.entry_then_store Zn underlying101 CU l F (ux t);have hv:v0=.slice a m c:=by
  rcases Maps.fit_look false xQ underlying101 (CU w) l F (ux t)with⟨hr,E,_⟩|⟨e0,y,hmem,hke,hr,_,_,_⟩
  .rw[M]at hr
   rcases O with⟨R,T,J,_⟩|⟨_,J⟩
   .exact absurd J (E R T)
   .rw[J];exact(G' hr).symm
  .rw[M]at hr
   rcases O with⟨R,T,J,h3⟩|⟨E,_⟩
   .have:R=e0:=entry_eq_of_key (List.pairwise_map.1 F.stamped.2.2) T hmem (J.trans hke.symm)
    rw[h3,this];exact(G' hr).symm
   .exact absurd hke (E e0 hmem)
 subst hv;have z:(Value.slice a m c).ownBlock≠some i:=FP ho h.own;refine⟨a,m,c,Q,_,N,⟨es,u,v,b,l,rfl⟩,xV ho (fun k q=>BG l _ (fun e=>z (by rw[<-e];exact q))),fun y H o m' p hg X s=>?_⟩;have f:H.heap[i]? =some (.map v b):=(hg.block i (by simp[ChangeMaps.setBlock];exact(bY.1 l).1) (fun e=>z e.symm)).trans (E4 l _)
 obtain⟨I,d,Y,Z⟩:=x H (.slice o m' p) f;obtain⟨w',a1,g,_⟩:=h.own.update xQ underlying101 (by unfold maxLen;omega) (ux t) (JV o m' p);have ew:w'=ChangeMaps.setBlock w i (.map I d):=(WV (Z.symm.trans a1)).symm;refine⟨_,Y,⟨_,h.put (a:=o) (m:=m') (c:=p) t y U ?_ ?_ ?_ ?_⟩,⟨v,b,I,d,f,rfl⟩⟩
 .rw[ew]at g
  obtain⟨S,j,K,r⟩:=g;rw[E4 l]at K;exact⟨S,j,(E4 f _).trans K,r⟩
 .intro k V W L
  rw[BG f _ L,hg.block k (by simpa[ChangeMaps.setBlock]using V) (fun e=>W e.symm),BG l _ L]
 .exact xV X (fun k q=>BG f _ (fun e=>by
   subst e;rcases s with B|B
   .rw[B]at q;exact z q
   .rw[B]at q
    injection q with q;have:=(bY.1 l).1;simp[ChangeMaps.setBlock]at q;omega))
 .rcases s with B|B
  .exact .inl B
  .exact .inr ⟨_,B,by simp[ChangeMaps.setBlock]⟩
end
section
open Go.Maps (Keyed)
def aaP{a b:gx}(h:ef a.a a.n=ef b.a b.n):a=b:=by
 unfold ef at h;have c:=List.append_inj h (by rw[aO,aO]);exact gx.ext' (F_ c.1) (Value.int.inj (List.cons.inj c.2).1).2
open Classical in
noncomputable def uF(v:Value):Option (DataW Value×List MemPlace):=if ∃y:gx,v=aE (ef y.a y.n) then some (.held v,[])else none
def CL(y:gx):uF (aE (ef y.a y.n))=some (.held (aE (ef y.a y.n)),[]):=aG ⟨y,rfl⟩
def aee{v:Value}{y:DataW Value×List MemPlace}(h:uF v=some y):∃d:gx,v=aE (ef d.a d.n):=by
 unfold uF at h;split at h
 .assumption
 .cases h
def aa9{d:gx}{y:DataW Value×List MemPlace}(h:uF (aE (ef d.a d.n))=some y):y.1=.held (aE (ef d.a d.n)):=by
 rw[CL]at h;rw[<-iP h]
structure lM(w:aB)(bm n:Nat)(D:DataW Value)(l:List Rl):Prop where
 own:w.ownsMap prog 26 uF bm n D
 has:∀k,Maps.has D k=true↔∃y∈l,k=kl y.id
 size:Maps.size D=l.length
def lM.gr{w w':aB}{a n:Nat}{D:DataW Value}{l:List Rl}(h:lM w a n D l)(b:Gr w w'):lM w' a n D l:=
 ⟨h.own.kept b.grownBy (by simp),h.has,h.size⟩
def lM.kept{w w':aB}{a n:Nat}{D:DataW Value}{l:List Rl}(h:lM w a n D l){row:Option Nat}(b:w.grownBy w' row)(c:some a≠row):lM w' a n D l:=
 ⟨h.own.kept b c,h.has,h.size⟩
def lM.made{w:aB}{c:Nat}(h:w.heap[c]? =some (.map #[] 0)):lM w c 0 (.map []) []:=by
 obtain⟨d,b,a,F,_,_⟩:=Cw w prog 26 uF;rw[cM w _]at a;injection a with a;injection a with h1 h2;subst h1;subst h2;exact⟨⟨#[],0,h,F,aU _,rfl⟩,fun k=>by simp[Maps.has],rfl⟩
def jw(l:List Rl)(x:Id):Bool:=l.any fun y=>y.id==x
def lM.hasI{w:aB}{b n:Nat}{D:DataW Value}{l:List Rl}(h:lM w b n D l)(x:Id):Maps.has D (kl x)=jw l x:=by
 rw[kE,h.has];unfold jw;rw[mD];constructor
 .rintro⟨e,a,c⟩;exact⟨e,a,by simp[ID c]⟩
 .rintro⟨e,a,d⟩
  exact⟨e,a,by rw[<-(by simpa using d:e.id=x)]⟩
def acn(w:aB):(zeroValue 130).run prog w=.ok (aE (ef wG.a wG.n)) w:=by kernel_rfl
def lM.look{w:aB}{f n:Nat}{D:DataW Value}{l:List Rl}(h:lM w f n D l)(x:Id):
  ∃c:gx,∀W,Gr w W->(Instr.lookup 100 (.map (some f)) (aE (bC x)) true).run prog W=.ok (.tuple #[aE (ef c.a c.n),.bool (jw l x)]) W:=by
 have e:∀W,Gr w W->∃c:gx,D.atKey (kl x) (.held (aE (ef wG.a wG.n)))=.held (aE (ef c.a c.n))/\(Instr.lookup 100 (.map (some f)) (aE (bC x)) true).run prog W=.ok (.tuple #[aE (ef c.a c.n),.bool (jw l x)]) W:=by
  intro W g;obtain⟨v,m,b,i⟩:=(h.gr g).own.look_ok tW underlying100 (acn W) (CL wG) (tC x);obtain⟨c,rfl⟩:=aee i;rw[h.hasI]at b;exact⟨c,aa9 i,b⟩
 obtain⟨c,k,_⟩:=e w (Gr.refl w);refine⟨c,fun W g=>?_⟩;obtain⟨j,d,b⟩:=e W g;rw[k]at d;rw[aaP (C' (Value.agg.inj (sD d)))];exact b
def lM.store{w:aB}{j n:Nat}{D:DataW Value}{l:List Rl}(h:lM w j n D l)(r:n<=1000)(y:Rl)(m:jw l y.id=false):
  ∃i,(Instr.mapUpdate 100 (.map (some j)) (aE (bC y.id)) (aE (ef y.at_.a y.at_.n))).run prog w=.ok () i/\(∃o,lM i j (n+1) o (l++[y]))/\w.mapTurned i j:=by
 obtain⟨i,g,f,d⟩:=h.own.store tW underlying100 (by unfold maxLen;omega) (tC y.id) (CL y.at_);have p:=h.own.isMap;have q:=JC y.id;rw[<-h.hasI]at m;refine⟨i,g,⟨D.put (kl y.id) (.held (aE (ef y.at_.a y.at_.n))),⟨f,?_,?_⟩⟩,d⟩
 .intro k
  by_cases e:k=kl y.id
  .subst e
   rw[Maps.has_put_same p q];exact⟨fun _=>⟨y,by simp,rfl⟩,fun _=>rfl⟩
  .rw[Maps.has_put_other e,h.has]
   constructor
   .rintro⟨x,c,b⟩;exact⟨x,by simp[c],b⟩
   .rintro⟨x,c,b⟩
    rcases mf.1 c with c|c
    .exact⟨x,c,b⟩
    .simp at c;rw[c]at b;exact absurd b e
 .rw[Maps.size_put (h.own.tidy tW),m,bV,h.size];rfl
def nP(l:List Rl)(t:gx):List Rl:=l.filter fun y=>decide (y.at_=t)
structure Rg(w:aB)(base x b1 b2:Nat)(l:List Rl):Prop where
 hx:base<=x
 h1:base<=b1
 h2:base<=b2
 hne:b1≠b2
 hb:w.heap[x]? =some (.cells #[.map (some b1),.map (some b2)] 103)
 kn:∃D,lM w b1 l.length D l
 ro:∃D,kQ w b2 base l.length D (nP l)
def Rg.gr{w w':aB}{base x b c:Nat}{l:List Rl}(h:Rg w base x b c l)(a:Gr w w'):Rg w' base x b c l:=by
 obtain⟨d,k⟩:=h.kn;obtain⟨e,r⟩:=h.ro;exact⟨h.hx,h.h1,h.h2,h.hne,(a.block (aI h.hb)).trans h.hb,⟨d,k.gr a⟩,⟨e,r.gr a⟩⟩
def IE(w:aB):Calls prog 14 #[] w fun e w'=>∃x c d,e=.returned (bZ x)/\Rg w' w.heap.size x c d []/\Gr w w':=by
 have a:∀w,(Instr.makeMap 100 none).run prog w=.ok (.map (some w.heap.size)) (w.alloc (.map #[] 0)):=fun w=>by simp[Instr.makeMap]
 have b:∀w,(Instr.makeMap 101 none).run prog w=.ok (.map (some w.heap.size)) (w.alloc (.map #[] 0)):=fun w=>by simp[Instr.makeMap]
 go_in;go_wp2_with fail;go_ret;have f:=(((Gr.refl w).alloc (.map #[] 0)).alloc (.map #[] 0)).alloc (.cells #[.map (some w.heap.size),.map (some (w.heap.size+1))] 103);refine⟨w.heap.size+1+1,w.heap.size,w.heap.size+1,by simp,⟨by omega,by omega,by omega,by omega,?_,?_,?_⟩,f⟩
 .exact aY _ _ _ (by simp)
 .exact⟨_,(lM.made (cM w (.map #[] 0))).gr (((Gr.refl _).alloc _).alloc _)⟩
 .have g:((w.alloc (.map #[] 0)).alloc (.map #[] 0)).heap[w.heap.size+1]? =some (.map #[] 0):=aY _ _ _ (by simp)
  exact⟨_,(kQ.made (base:=w.heap.size) g).gr ((Gr.refl _).alloc _)⟩
def TZ(base x c d:Nat)(l:List Rl)(w:aB)(h:Rg w base x c d l):Calls prog 55 #[bZ x] w fun e w'=>e=.returned (.int .i64 (l.length:Int))/\w=w':=by
 have f:=bH h.hb 0;obtain⟨D,b⟩:=h.kn;have a:=b.own.len underlying100 3;rw[b.size]at a;go_in;go_wp2_with fail;go_ret;exact⟨rfl,rfl⟩
end
def Ys(base x t u:Nat)(l:List Rl)(i:Id)(w:World)(h:Rg w base x t u l):Calls prog 54 #[.pointer (some ⟨x,0,none⟩),.agg (bC i).toArray] w fun e w'=>e=.returned (.bool (jw l i))/\Gr w w':=by
 have k:=(Gr.refl w).alloc (aC (bC i) 26);have g:=h.gr k;have H:=bH g.hb 0;have I:=aI g.hb;obtain⟨D,p⟩:=g.kn;obtain⟨d,c⟩:=p.look i;have m:=cM w (aC (bC i) 26);have s:=aA k;have r:=aA m;clear h k g m p;go_in;go_wp2_with fail;generalize q:w.alloc (aC (bC i) 26)=W at*
 have v:=c W.drew (Gr.refl W).drew;have y:=fun o=>c (W.alloc o).drew ((Gr.refl W).alloc o).drew;obtain⟨E,F,G⟩:=dL 32 (cC i) r.out;have C:=Gh d.a d.n;have z:=pj d.a d.n;have B:=aA q;clear c q;generalize f:jw l i=J at*
 have j:=aA f;clear f
 go_big_region
 go_wp2_with fail;go_ret;exact⟨by rw[j.out];rfl,s.trans ((((Gr.refl W).alloc _).drew).setsOwn (b:=W.heap.size) (aU _) (ef d.a d.n) 0)⟩
def acO:(prog.info? 132).map (fun i=>(i.zero,i.size,i.bytes))=some (some (aE (bK ep)),84,112):=by kernel_rfl
def PV:∃i z,prog.info? 132 =some i/\i.zero=some z/\i.size=84/\i.bytes=112/\z.cells.size=84:=by
 have h:=acO
 cases hi:prog.info? 132 with
 |none=>rw[hi]at h;cases h
 |some i=>
  rw[hi]at h;simp only[jm,qE,rk]at h;exact⟨i,aE (bK ep),rfl,h.1,h.2.1,h.2.2,by show(bK ep).toArray.size=84;rw[bQ,fM]⟩
def xP{w w':aB}{d b:Nat}{cs:Array Value}{t:TypeId}(h:w.mapTurned w' d)(hb:w.heap[b]? =some (.cells cs t)):w'.heap[b]? =some (.cells cs t):=by
 have g:=h.grown;obtain⟨j,c,f,a,i,_⟩:=h;refine(g.block b (aI hb) (fun e=>?_)).trans hb;injection e with e;subst e;rw[i]at hb;cases hb
def Zx{g:Array Oper}{o:Oper}{a:Act}{w:aB}{K:Act->aB->Prop}{Q:Exit->Act->aB->Prop}{E:Prop}
  (r:o.guard=none) (d:Nat) (q:o.dst=some d) (s x:Operand) (h:o.op=Op.call { callee:=Callee.builtin Builtin.append,args:=#[s,x],argTypes:=#[185,185] })
  (base:Nat) (v:Value) (n:Nat) (xs:bF) (hs:a.eval s=v) (hown:w.ownsRow base 132 84 v n xs) (b:Nat) (y:Rl) (hx:a.eval x=aR b 0 1 1) (hb:HB w b (bK y) 132) (h63:n+1<=1000000) (hbase:base<=w.heap.size)
  (hK:∀c e w',w'.ownsRow base 132 84 (.slice c (n+1) e) (n+1) (xs++bK y)->w.grownBy w' v.ownBlock->((Value.slice c (n+1) e).ownBlock=v.ownBlock\/(Value.slice c (n+1) e).ownBlock=some w.heap.size)->K (a.put (some d) (.slice c (n+1) e)) w'):
  if Region.wanted o (yielded g a.tmps)=true then Oper.wp prog o a w K Q else E:=by
 have t:Region.wanted o (yielded g a.tmps)=true:=by simp[Region.wanted,r]
 rw[aG t];obtain⟨i,z,B,C,D,F,G⟩:=PV
 obtain⟨H,w',f,l,m,_,p⟩:=run_append_own_at (P:=prog) w base 185 o.type 132 i z 84 112 underlying185 B C D F G (aH rfl) v n xs hown (aD b 0) 1 1 (bK y) (by rw[fM])
  (fun j u k=>by
   rw[fO,fB];exact(bH hb j).trans k) (fun u k=>gY.1 (pQ y) u k) (by unfold maxLen;omega) (by omega) hbase
 obtain⟨c,e,rfl,_⟩:=ql l;unfold Oper.wp;simp[execOp,h,resolve,invoke,builtin,hs,hx,f,Result.andThen];show K (a.put o.dst _) w';rw[q];exact hK c e w' l m p
def kQ.kept1{w w':aB}{b a base n:Nat}{D:DataW Value}{G:gx->List Rl}(h:kQ w b base n D G)(j:w.grownBy w' (some a))(g:a≠b)(p:∀cs t fr,w.heap[a]? ≠some (.cells cs t fr)):kQ w' b base n D G:=
 ⟨h.own.kept j (fun e=>g (by injection e with e;exact e.symm)),fun t=>by
  obtain⟨v,o,d⟩:=h.rows t;refine⟨v,o,xV d fun k hk=>j.block k (d.lt k hk).2 (fun e=>?_)⟩;injection e with e;subst e;rcases d.2 with⟨c,_⟩|⟨m,i,l,c,_,q,_⟩
  .rw[c]at hk;cases hk
  .rw[c]at hk
   have f:m=k:=by simpa[Value.ownBlock]using hk
   subst f;exact p _ _ _ q,h.apart⟩
def Vx(l:List Rl)(y:Rl):(fun a=>if a=y.at_ then nP l y.at_++[y]else nP l a)=nP (l++[y]):=by
 funext a
 unfold nP;rw[Af];by_cases e:a=y.at_
 .subst e;simp
 .have b:¬y.at_=a:=fun q=>e q.symm
  rw[aF e];simp[b]
def z_{a b:Nat}{w w':aB}(h:a<=b)(c:Below b w w'):Below a w w':=⟨c.os,c.tape,c.output,c.size,fun k d=>c.block k (dQ d h)⟩
def EQ{base:Nat}{w u v:aB}{a:Nat}(h:Below base w u)(d:u.mapTurned v a)(e:base<=a)(c:base<=w.heap.size):Below base w v:=
 Below.grown h d.grown (eu c h.size) (fun k b=>by injection b with b;omega)
def Zd(base x H C:Nat)(l:List Rl)(y:Rl)(w:aB)(h:Rg w base x H C l)(hl:l.length<=900)(a9:jw l y.id=false):
  Calls prog 56 #[bZ x,aE (bK y)] w fun e w'=>e=.returned (.tuple #[])/\Rg w' base x H C (l++[y])/\Below base w w':=by
 obtain⟨n,hn⟩:=ex w.heap.size;obtain⟨B,hU,HG,V⟩:=gO hn (aC (bK y) 132)
 have D:=h.gr HG;have o:Hid (base<=w.heap.size):=eu h.hx (pz (aI h.hb));have m1:B.cell? (aD x 0)=some (.map (some H)):=bH D.hb 0;have F:=aI D.hb;obtain⟨D1,U⟩:=D.kn;obtain⟨D2,hr⟩:=D.ro;have a8:=run_eql_map_nil (P:=prog) B 100 26 130 (some H) underlying100;obtain⟨e1,e2,e3,e4,e5,e6,e7,e8,e9,I,J,K⟩:=pB V.out;have a:=aA D;have HK:=aA U;have a3:=aA hr;go_in;go_wp2_with fail;have D3:=HK.gr (Gr.refl B).drew;obtain⟨f,ac,⟨D',M⟩,b⟩:=D3.store (by omega) y a9;have S:f.heap[x]? =some (.cells #[.map (some H),.map (some C)] 103):=xP b (((Gr.refl B).drew.block (aI a.hb)).trans a.hb)
 have L:HB f n (bK y) 132:=xP b (((Gr.refl B).drew.block (aI V)).trans V)
 have R:kQ f C base l.length D2 (nP l):=(a3.gr (Gr.refl B).drew).kept1 b.grown a.hne (fun cs t fr e=>by
  obtain⟨es,a5,ak,T,hb,_⟩:=b;rw[hb]at e;cases e)
 have a4:=aA b;have Y:=aA M;have a2:=aA R;have i:=aA S;have r:=aA L
 go_big_region
 obtain⟨e1,e2,e3,e4,e5,e6,e7,e8,e9,I,J,K⟩:=pB r.out;have m1:f.cell? (aD x 1)=some (.map (some C)):=bH i 1;have F:=aI i;obtain⟨G,O⟩:∃W,(f.alloc (aC (bK y) 132)).drew=W:=⟨_,rfl⟩;have v:Gr f G:=by rw[<-O];exact((Gr.refl f).alloc _).drew
 obtain⟨d1,d2,d3,d4,d5,d6,d7,d8,d9,ah,ai,aj⟩:=pB ((v.block (aI r.out)).trans r.out);have m3:G.cell? (aD x 1)=some (.map (some C)):=(v.cell (p:=⟨x,1,none⟩) F).trans m1;have m4:x<G.heap.size:=dQ F v.size;have d:HB G (f.heap.size) (bK y) 132:=by rw[<-O];exact aY _ _ _ rfl
 obtain⟨sa,sm,sc,st,w1,al,m,Q,c⟩:=(a2.out.gr v).entry (by omega) y.at_;have q:base<=w1.heap.size:=eu a.hx (pz (dQ F (eu v.size m.grown.size)));have am:(nP l y.at_).length<=900:=eu (Ac _ _) hl;have u:=aA m;have g:=aA Q;have X:=aA c;have s:=aA v;have Z:=aA (xP m d);go_wp2_with fail;go_region_law (first|(refine Zx rfl 32 rfl (.tmp 28) (.tmp 30) rfl base (.slice sa sm sc) _ _ rfl g f.heap.size y rfl Z (by omega) q ?_;intro a1 c1 w7 aa j a7;obtain⟨w8,af,a6,z⟩:=X.out y w7 a1 _ c1 j (by simpa using aa) a7));all_goals
  refine pM rfl rfl ?_;have ab:base<=f.heap.size:=eu a.hx (pz F);have C1:Below base w f:=EQ (z_ o HG.drew) a4 a.h1 o;have C2:Below base w G:=C1.trans (z_ ab s);have C3:Below base w w1:=EQ C2 u a.h2 o;have C4:Below base w w7:=Below.grown C3 j q (fun k U=>(g.lt k U).1);have C5:Below base w w8:=EQ C4 z a.h2 o;have X1:=xP u ((s.block (aI i)).trans i)
  have ad:(Value.slice sa sm sc).ownBlock≠some x:=fun e=>by
   rcases g.out.2 with⟨h0,_⟩|⟨g',ae,ag,h0,_,E,_⟩
   .rw[h0]at e;cases e
   .rw[h0]at e
    have e':g'=x:=by simpa[Value.ownBlock]using e
    subst e';rw[X1]at E;injection E with E;injection E with _ E;exact absurd E (aH rfl)
  have X2:=xP z ((j.block x (aI X1) (fun e=>ad e.symm)).trans X1);have K1:=(Y.gr s).kept u.grown (fun e=>a.hne (by injection e with e));have K2:=K1.kept j (fun e=>FP g K1.own e.symm);have K3:=K2.kept z.grown (fun e=>a.hne (by injection e with e));refine⟨rfl,⟨a.hx,a.h1,a.h2,a.hne,X2,⟨D',?_⟩,?_⟩,C5⟩
  .rw[bV];exact K3
  .obtain⟨DD,N⟩:=a6
   rw[Vx]at N;rw[bV];exact⟨DD,N⟩
end Go.Proofs.YtjfaogajmoffoaaGreatDoor
