/- Lemmas for VerifyStatus. -/
import Derived.Test.YtjfaogajmoffoaaGreatDoorQPA6
set_option maxRecDepth 100000
set_option maxHeartbeats 16000000
set_option linter.all false
namespace Go.Proofs.YtjfaogajmoffoaaGreatDoor
open Go.RowKit Tryz
structure WM(W:aB)(b:Nat)(x:Ky):Prop where
 p0:hasRow W (aD b 1) 17=true
 p1:rowAt W (aD b 1) 17=aN x.h x.r
 l:W.cell? (aD b 18)=some (.int .i64 x.lim)
 i0:hasRow W (aD b 19) 32=true
 i1:rowAt W (aD b 19) 32=bC x.next
 z:b<W.heap.size
def IB{W:aB}{b:Nat}{x:Ky}(h:HB W b (cR x) 181):WM W b x:=by
 have a:=mF x;refine⟨aP h 1 17 (by omega),(bJ h 1 17 (by omega)).trans ?_,(bH h 18).trans ?_,aP h 19 32 (by omega),(bJ h 19 32 (by omega)).trans ?_,aI h⟩
 .unfold cR;rw[mr _ _ _ _ (aH rfl)];exact gP _ _ _ (bG _ _)
 .unfold cR
  show(aN x.h x.r++(.int .i64 x.lim::bC x.next))[17]? =_
  rw[eY (aN x.h x.r) _ 17 17 (bG _ _) (aU _)];rfl
 .unfold cR
  rw[mr _ _ _ _ (aH rfl),eQ (aN x.h x.r) _ 18 32 17 (bG _ _) (aH rfl),mr _ _ _ _ (aH rfl),b_ _ _ (cC _)]
def oA(l:List Ky)(a:aK)(m h:Int)(r:aK)(b:Int)(id:Id):Int:=
 if lH l m=true then
  if iN (eT l m).h (eT l m).r h r=true then
   if(eT l m).lim= -1 then 0 else if(eT l m).lim<b then 3 else if b=(eT l m).lim/\id≠(eT l m).next then 3 else 0
  else 2
 else if m≠0 then 1 else if jG a h r=true then 0 else 2
def KT(base x I J:Nat)(L:List Rl)(s:CE base x I J L)(a:aK)(m h:Int)(r:aK)(c:Int)(id:Id)(w:aB)(hR:Rg w base x I J L)(hK:Kt w):
  Calls prog 52 #[bZ x,aE (bC a),.int .i64 m,aE (aN h r),.int .i64 c,aE (bC id)] w (RG w (.int .i64 (oA (chain L a) a m h r c id))):=by
 obtain⟨n,hn⟩:=ex w.heap.size;obtain⟨H,M,C,X,Y,Z⟩:=jP hn (aC (bC a) 42) (aC (aN h r) 44) (aC (bC id) 26)
 have j:=aA (Xj base x I J L s a m H (hR.gr C));have D:=aA (LK a h r);have HK:=aA (hK.gr C);have T:=aO a;have B3:=cC id;have B6:=bG h r;obtain⟨l,P⟩:=ex (chain L a);rw[P]at j;have E:Hid (oA (chain L a) a m h r c id=if lH l m=true then
  if iN (eT l m).h (eT l m).r h r=true then
   if(eT l m).lim= -1 then 0 else if(eT l m).lim<c then 3 else if c=(eT l m).lim/\id≠(eT l m).next then 3 else 0
  else 2
 else if m≠0 then 1 else if jG a h r=true then 0 else 2):=by show _=_;rw[P];rfl
 rw[E.out];generalize lH l m=ok at*
 generalize eT l m=i at*
 generalize t:jG a h r=fb at*
 replace t:=aA t;have D1:=mF i;have D2:=ss i;obtain⟨v,d⟩:∃z,i.lim=z:=⟨_,rfl⟩;obtain⟨Q,f⟩:∃z,i.next=z:=⟨_,rfl⟩;rw[d,f];rw[d,f]at E;have S:=aY w (aC (bC a) 42) n hn.symm;obtain⟨f0,f1,f2⟩:=dL 16 T S;have KX:Hid (∀V,Gr H V->HB V n (bC a) 42/\HB V (n+1) (aN h r) 44/\HB V (n+1+1) (bC id) 26):=fun V N=>⟨(N.block (aI X)).trans X,(N.block (aI Y)).trans Y,(N.block (aI Z)).trans Z⟩
 have F:=aA d;have G:=aA f;replace M:=aA M
 cases ok
 focus
  rw[aF (by simp)];by_cases u:m=0
  focus
   subst u;rw[aF (fun h=>h rfl)]
   cases fb
   focus
    rw[aF (by simp)]
   rotate_left
   focus
    rw[aG rfl]
  rotate_left 2
  focus
   have a2:(m != 0)=true:=by simp[u]
   rw[aG u];replace u:=aA u
 rotate_left 3
 focus
  rw[aG rfl];generalize a3:iN i.h i.r h r=pe at*
  cases pe
  focus
   rw[aF (by simp)]
  rotate_left
  focus
   rw[aG rfl];by_cases k:v= -1
   focus
    subst k;rw[aG rfl]
   rotate_left
   focus
    have hb:(v != -1)=true:=by simp[k]
    rw[aF k];replace k:=aA k;by_cases h2:v<c
    focus
     rw[aG h2]
    rotate_left
    focus
     rw[aF h2];by_cases o:c=v
     focus
      subst o;by_cases g:id=Q
      focus
       have O:(id==Q)=true:=by simp[g]
       rw[aF (fun q=>q.2 g)];replace g:=aA g
      rotate_left
      focus
       have O:(id==Q)=false:=dI.2 g;rw[aG ⟨rfl,g⟩];replace g:=aA g
     rotate_left 2
     focus
      have a1:(c==v)=false:=dI.2 o;rw[aF (fun q=>o q.1)];replace o:=aA o
 all_goals
  go_in;go_wp2_with fail;rw[M.out];refine bA j fun R K=>?_;obtain⟨p,hp⟩:=ex R.heap.size;have y:HB (R.alloc (aC l_ 181)) p l_ 181:=aY _ _ _ hp.symm
  have z0:=aP y 0 51 (by rw[AK];decide);have z1:=bE y 0 51;obtain⟨W,hW⟩:=ex ((R.alloc (aC l_ 181)).setCells p 0 (cR i));have B:Hid (Gr H W):=hW▸(K.alloc _).setsOwn (b:=p) (by rw[<-hp];exact K.size) _ _
  have KB:HB W p (cR i) 181:=by rw[<-hW];exact bO y (by rw[D1,AK])
  obtain⟨x0,x1,x2⟩:=KX.out W B.out;obtain⟨c1,c2,c3,c4,c5,c6⟩:=IB KB;rw[F.out]at c3;rw[G.out]at c5;obtain⟨r0,r1,r2⟩:=dL 16 T x0;obtain⟨s0,s1,s2⟩:=dL 17 B6 x1;obtain⟨t0,t1,t2⟩:=dL 32 B3 x2;have U:=aA (C.trans B);first
  |(go_wp2_with fail
    go_ret;exact⟨rfl,U⟩)
  |(go_wp2_with (go_at_call 53;refine bA (D _ (HK.gr B)) fun w2 g2=>?_)
    go_ret;exact⟨rfl,U.trans g2⟩)
def R8(a:aK)(m h:Int)(r:aK)(b:Int)(id:Id)(w:aB):
  Calls prog 52 #[.pointer none,aE (bC a),.int .i64 m,aE (aN h r),.int .i64 b,aE (bC id)] w (RG w (.int .i64 1)):=by
 have c:Hid (Gr w (((w.alloc (aC (bC a) 42)).alloc (aC (aN h r) 44)).alloc (aC (bC id) 26))):=(((Gr.refl w).alloc _).alloc _).alloc _;go_in;go_wp2_with fail;go_ret;exact⟨rfl,c⟩
def np(L:List Rl)(n:Nat):Nat:=(L.filter fun y=>decide ((n:Int)<=y.at_.n)).length
def QY(L:List Rl)(n:Nat):np L n<=L.length:=Ac _ _
def OW{L:List Rl}{n:Nat}{y:Rl}(hy:y∈L)(h:y.at_.n=(n:Int)):np L (n+1)<np L n:=by
 unfold np
 induction L with
 |nil=>cases hy
 |cons x l g=>
  have a:∀l:List Rl,(l.filter fun y=>decide (((n+1:Nat):Int)<=y.at_.n)).length<=(l.filter fun y=>decide ((n:Int)<=y.at_.n)).length:=by
   intro l
   induction l with
   |nil=>exact aU _
   |cons z l d=>
    rw[wi,wi];by_cases b:((n+1:Nat):Int)<=z.at_.n
    .have c:(n:Int)<=z.at_.n:=by omega
     rw[aG (by simpa using b),aG (by simpa using c)];simp only[dN];omega
    .rw[aF (by simpa using b)]
     split
     .simp only[dN];omega
     .exact d
  rw[wi,wi];rcases pc.1 hy with e|f
  .subst e
   rw[aF (by simp;omega),aG (by simp;omega)];have:=a l;simp only[dN];omega
  .have:=g f
   by_cases b:((n+1:Nat):Int)<=x.at_.n
   .have c:(n:Int)<=x.at_.n:=by omega
    rw[aG (by simpa using b),aG (by simpa using c)];simp only[dN];omega
   .rw[aF (by simpa using b)]
    split
    .simp only[dN];omega
    .exact this
def FU{L:List Rl}{a:aK}{n:Nat}{p:Pk}(h:ed L a n p≠[]):np L (n+1)<np L n:=by
 obtain⟨y,hy⟩:=List.exists_mem_of_ne_nil _ h;unfold ed jC at hy;have c:=(zv.1 hy).1;have b:=(zv.1 c);have d:y.at_.a=a/\y.at_.n=(n:Int):=by simpa using b.2
 exact OW b.1 d.2
def uu(L:List Rl)(a:aK)(n:Nat)(p:Pk):Pk:=((least fZ ep (ed L a n p)).nh,(least fZ ep (ed L a n p)).nr)
def Dq(L:List Rl)(a:aK):∀(f g n:Nat) (p:Pk),np L n<f->np L n<g->oM L a f n p=oM L a g n p
 |0,_,_,_,h,_=>absurd h (lZ _)
 |_+1,0,_,_,_,h=>absurd h (lZ _)
 |f+1,g+1,n,p,h1,h2=>by
  unfold oM;by_cases b:ed L a n p=[]
  .rw[aG b,aG b]
  .rw[aF b,aF b]
   have:=FU b;rw[Dq L a f g (n+1) _ (by omega) (by omega)]
def wL(L:List Rl)(a:aK)(n:Nat)(p:Pk):List Ky:=oM L a (np L n+1) n p
def Yu(L:List Rl)(a:aK)(n:Nat)(p:Pk):wL L a n p=mU L a n p::(if ed L a n p=[]then[]else wL L a (n+1) (uu L a n p)):=by
 unfold wL;rw[show oM L a (np L n+1) n p=mU L a n p::(if ed L a n p=[]then[]else oM L a (np L n) (n+1) (uu L a n p))from rfl];by_cases b:ed L a n p=[]
 .rw[aG b,aG b]
 .rw[aF b,aF b]
  have:=FU b;rw[Dq L a (np L n) (np L (n+1)+1) (n+1) _ (by omega) (by omega)]
def Zm(L:List Rl)(a:aK):chain L a=if jC L a 0=[]then[]else wL L a 0 (least jr mE ((jC L a 0).map eW)):=by
 unfold chain;split
 .rfl
 .exact Dq L a _ _ 0 _ (Nat.lt_succ_of_le (QY L 0)) (xO _)
def Nf(L:List Rl)(a:aK):∀(f n:Nat) (p:Pk),(oM L a f n p).length<=f
 |0,_,_=>aU _
 |f+1,n,p=>by
  unfold oM;split
  .simp
  .have:=Nf L a f (n+1) ((least fZ ep (ed L a n p)).nh,(least fZ ep (ed L a n p)).nr)
   simp only[dN];omega
def NT(L:List Rl)(a:aK):(chain L a).length<=L.length+1:=by
 unfold chain;split
 .simp
 .exact Nf L a _ _ _
def mm(L:List Rl)(a:aK)(n:Nat)(b:Bool)(p:Pk):List Ky:=if b=true then wL L a n p else[]
def JW(L:List Rl)(a:aK)(n:Nat)(p:Pk):mm L a n true p=mU L a n p::mm L a (n+1) (decide (ed L a n p≠[])) (uu L a n p):=by
 unfold mm;rw[aG rfl,Yu];by_cases b:ed L a n p=[]
 .rw[aG b,aF (by simp[b])]
 .rw[aF b,aG (by simp[b])]
def G_(L:List Rl)(a:aK):chain L a=mm L a 0 (decide (jC L a 0≠[])) (least jr mE ((jC L a 0).map eW)):=by
 rw[Zm];unfold mm;by_cases b:jC L a 0=[]
 .rw[aG b,aF (by simp[b])]
 .rw[aF b,aG (by simp[b])]
def rp(L:List Rl)(n:Nat)(a:Bool):Nat:=if a=true then np L n+1 else 0
def Lt(L:List Rl)(a:aK)(n:Nat)(p:Pk):rp L (n+1) (decide (ed L a n p≠[]))<rp L n true:=by
 unfold rp;rw[aG rfl];by_cases b:ed L a n p=[]
 .rw[aF (by simp[b])];omega
 .rw[aG (by simp[b])]
  have:=FU b;omega
def Jg(L:List Rl)(a:aK)(n:Int)(k:Nat)(h:k<L.length):jC (L.take (k+1)) a n=jC (L.take k) a n++(if L[k].at_.a=a/\L[k].at_.n=n then[L[k]]else[]):=by
 unfold jC;rw[eF h,Af];congr 1;by_cases b:L[k].at_.a=a/\L[k].at_.n=n
 .rw[aG b];simp[b]
 .rw[aF b];simp only[wi,List.filter_nil];rw[aF (by simpa using b)]
def JF(L:List Rl)(t:gx):jC L t.a t.n=nP L t:=by
 unfold jC nP;congr 1
 funext y
 apply xS.2;constructor
 .intro h;exact gx.ext' h.1 h.2
 .intro h;rw[h];exact⟨rfl,rfl⟩
def xz{a:Type}(b:a->a->Int)(z:a)(l:List a)(y:a):least b z (l++[y])=if l=[]then y else if b y (least b z l)<0 then y else least b z l:=by
 cases l with
 |nil=>rfl
 |cons x l=>
  rw[aF (by simp)];show List.foldl _ x (l++[y])=_;rw[ta];rfl
structure om(te t:TypeId)(size bytes:Nat):Prop where
 u:prog.underlying te=some (.slice t)
 i:∃i z,prog.info? t=some i/\i.zero=some z/\i.size=size/\i.bytes=bytes/\z.cells.size=size
 p:0<size
 b:bytes<=1000
def rE{b t:TypeId}{size a:Nat}(f:prog.underlying b=some (.slice t))(h:(prog.info? t).map (fun i=>(i.zero.map (fun z=>z.cells.size),i.size,i.bytes))=some (some size,size,a))(d:0<size)(c:a<=1000):om b t size a:=by
 refine⟨f,?_,d,c⟩
 cases hi:prog.info? t with
 |none=>rw[hi]at h;cases h
 |some i=>
  rw[hi]at h;simp only[jm,qE,rk]at h;obtain⟨z,g,e⟩:=o4.1 h.1;exact⟨i,z,rfl,g,h.2.1,h.2.2,e⟩
def c_(t:TypeId)(size:Nat)(w:aB)(base:Nat)(v:Value)(rows:List bF):Prop:=(∀r∈rows,r.length=size)/\w.ownsRow base t size v rows.length rows.flatten
def c_.gr{t:TypeId}{size:Nat}{w w':aB}{base:Nat}{v:Value}{l:List bF}(h:c_ t size w base v l)(a:Gr w w'):c_ t size w' base v l:=⟨h.1,mM h.2 a.grownBy (by cases v.ownBlock<;>simp)⟩
def c_.sl{t:TypeId}{size:Nat}{w:aB}{base:Nat}{v:Value}{l:List bF}(h:c_ t size w base v l):bX w v size l:=rf h.1 h.2
def c_.nil(t:TypeId)(size:Nat)(w:aB)(base:Nat):c_ t size w base (.slice none 0 0) []:=⟨fun _ h=>(xF h).elim,by simp,.inl ⟨rfl,rfl⟩⟩
def c_.kept{t:TypeId}{size:Nat}{w w':aB}{base:Nat}{v:Value}{l:List bF}{b:Nat}(h:c_ t size w base v l)(c:w.grownBy w' (some b))(a:v.ownBlock≠some b):c_ t size w' base v l:=⟨h.1,mM h.2 c (.inr a)⟩
def c_.own{t:TypeId}{size:Nat}{w:aB}{base:Nat}{v:Value}{l:List bF}(h:c_ t size w base v l){k:Nat}(a:v.ownBlock=some k):base<=k/\k<w.heap.size:=fA h.2 k a
def c_.block{t:TypeId}{size:Nat}{w w':aB}{base:Nat}{v:Value}{l:List bF}(h:c_ t size w base v l)(a:∀k,v.ownBlock=some k->w'.heap[k]? =w.heap[k]?):c_ t size w' base v l:=⟨h.1,xV h.2 a⟩
def Ec{w:aB}{b n:Nat}{cs:bF}{t:TypeId}(h:HB w b cs t) (c:cs.length=n):bX w (aR b 0 1 1) n [cs]:=by
 refine⟨_,1,rfl,aU _,fun j a=>⟨b,0,rfl,(bY.1 h).1,?_,?_⟩⟩
 .have:j=0:=by simp at a;exact a
  subst this;rw[rx];exact aP h 0 n (by omega)
 .have:j=0:=by simp at a;exact a
  subst this;rw[rx];exact(bJ h 0 n (by omega)).trans (b_ _ _ c)
def uh{l t:TypeId}{size c:Nat}(j:om l t size c)(w:aB){g:Array Oper}{rest:List Oper}{o:Oper}{a:Act}{Q:Exit->Act->aB->Prop}(m:o.guard=none)(s x:Operand)
  (C:o.op=.call { callee:=.builtin .append,args:=#[s,x],argTypes:=#[l,l] }) (base:Nat) (v:Value) (rows:List bF) (hs:a.eval s=v) (hown:c_ t size w base v rows)
  (b:Nat) (r:bF) (hx:a.eval x=aR b 0 1 1) (hb:HB w b r t) (hr:r.length=size) (h1:cN r=true) (k:Nat) (hk:rows.length+1=k) (h63:k<=1000000) (hbase:base<=w.heap.size)
  (h:∀d e w',c_ t size w' base (.slice d k e) (rows++[r])->w.grownBy w' v.ownBlock->((Value.slice d k e).ownBlock=v.ownBlock\/(Value.slice d k e).ownBlock=some w.heap.size)->wpList prog g Q rest (a.put o.dst (.slice d k e)) w'):
  wpList prog g Q (o::rest) a w:=by
 subst hk;obtain⟨i,z,D,E,F,G,H⟩:=j.i;refine tU w m s x l C base t i z size c j.u D E F G H j.p v rows.length rows.flatten hs hown.2 _ [r] hx (Ec hb hr) (by simpa using hr) (by simpa using h1) h63 j.b hbase ?_;intro d e w' n y B;refine h d e w' ⟨fun q f=>?_,?_⟩ y B
 .rcases mf.1 f with f|f
  .exact hown.1 q f
  .simp at f;rw[f];exact hr
 .rw[bV,Ai];exact n
def Ea{m t:TypeId}{size c:Nat}(l:om m t size c){j:Array Oper}{o:Oper}{a:Act}{w:aB}{K:Act->aB->Prop}{Q:Exit->Act->aB->Prop}{E:Prop}
  (F:o.guard=none) (d:Nat) (D:o.dst=some d) (s x:Operand) (n:o.op=Op.call { callee:=Callee.builtin Builtin.append,args:=#[s,x],argTypes:=#[m,m] })
  (base:Nat) (v:Value) (rows:List bF) (hs:a.eval s=v) (hown:c_ t size w base v rows) (b:Nat) (r:bF) (hx:a.eval x=aR b 0 1 1) (hb:HB w b r t) (hr:r.length=size) (h1:cN r=true) (k:Nat) (hk:rows.length+1=k) (h63:k<=1000000) (hbase:base<=w.heap.size)
  (hK:∀e f w',c_ t size w' base (.slice e k f) (rows++[r])->w.grownBy w' v.ownBlock->((Value.slice e k f).ownBlock=v.ownBlock\/(Value.slice e k f).ownBlock=some w.heap.size)->K (a.put (some d) (.slice e k f)) w'):
  if Region.wanted o (yielded j a.tmps)=true then Oper.wp prog o a w K Q else E:=by
 subst hk;have G:Region.wanted o (yielded j a.tmps)=true:=by simp[Region.wanted,F]
 rw[aG G];obtain⟨i,z,H,I,J,L,M⟩:=l.i;obtain⟨e,f,w',h,y,B,C⟩:=v_ (P:=prog) w base m o.type t i z size c l.u H I J L M l.p v rows.length rows.flatten hown.2 _ [r] (Ec hb hr) (by simpa using hr) (by simpa using h1) h63 l.b hbase;unfold Oper.wp;simp[execOp,n,resolve,invoke,builtin,hs,hx,h,Result.andThen];show K (a.put o.dst _) w';rw[D];refine hK e f w' ⟨fun q g=>?_,?_⟩ B C
 .rcases mf.1 g with g|g
  .exact hown.1 q g
  .simp at g;rw[g];exact hr
 .rw[bV,Ai];exact y
def RQ:om 282 44 17 24:=rE underlying282 (by kernel_rfl) (aH rfl) (aH rfl)
def abN:om 185 132 84 112:=rE underlying185 (by kernel_rfl) (aH rfl) (aH rfl)
def GM:om 241 181 51 72:=rE underlying241 (by kernel_rfl) (aH rfl) (aH rfl)
end Go.Proofs.YtjfaogajmoffoaaGreatDoor
