/- Lemmas for VerifyStatus. -/
import Derived.Test.YtjfaogajmoffoaaGreatDoorQPA0
set_option maxRecDepth 100000
set_option maxHeartbeats 16000000
set_option linter.all false
namespace Go.Proofs.YtjfaogajmoffoaaGreatDoor
open Go.RowKit Tryz
section
open Go.RowKit Go.Shelf
attribute [local go_sem] Oper.semAt_some
def Yh(r:Int)(w:aB):Calls prog 226 #[.int .i32 r] w fun e w'=>e=.returned (.bool (hJ r))/\w=w':=by
 go_in;go_wp2;all_goals
  go_ret;refine⟨eU ?_,rfl⟩;rw[kE,Dl];simp<;>omega
def qx(x:Nat×Int):Bool:=(x.2 != 9)&&hJ x.2
def pa(l:aM):Bool:=(jR 0 l).any qx||!(iH l==0)
def FV(b:Bool)(w:aB)(e:Ending)(w':aB):Prop:=(∃i:Int,e=.returned (.int .i64 i)/\decide (0<=i)=b)/\Gr w w'
def Ug(s:aJ)(w:aB)(O:s.size<=140737488351232)(n:Nat)(hn:3<=n)(t:List (Nat×Int))(hA:Hid (jR 0 (bl s)=t)):
  CallsIn Fence.wide n prog 195 #[.string s] w (FV (t.any qx||!(iH (bl s)==0)) w):=by
 have h1:1<=n:=by omega
 refine callsIn_of_wp_marks func195 rfl eV ?_ rfl;simp only[ntmps195,bQ,dN,iJ,Nat.reduceAdd,Nat.reduceSub,xy,wZ,xj,yK,mZ,mB]
 gi_wp2_with fail
 refine⟨eV,?_⟩;refine(nJ.2 (MM s _)).mono ?_;rintro e w2 ⟨rfl,rfl⟩
 gi_wp2_with fail
 have bR:Boxed ((w.alloc (.cells #[.int .i64 0] 3)).alloc (.cells #[.string s] 9)) w.heap.size 3 (.int .i64 0):=(Boxed.new w 3 (.int .i64 0)).alloc _;have bS:=Boxed.new (w.alloc (.cells #[.int .i64 0] 3)) 9 (.string s);have T:Below w.heap.size w ((w.alloc (.cells #[.int .i64 0] 3)).alloc (.cells #[.string s] 9)):=((Gr.refl w).alloc _).alloc _;have q:=Ka (n-1) (by omega) (w.heap.size+1) s O _ (by have:=bS;rw[yC]at this;exact this);rw[hA.out]at q
 refine wpIn_rangeFunc_ownG rfl h1 (gf:=245) (lb:=#[bZ (w.heap.size+1)]) rfl eV (lV func245 (by kernel_rfl) rfl)
  q LA (JM (by simp)) (tI _ _) (fun _=>rfl)
  (fun g W=>((∀p∈g,qx p=false)/\Boxed W w.heap.size 3 (.int .i64 0))/\Below w.heap.size w W)
  (fun c g W=>(∃i:Nat,(c=.ret/\∃p∈g,qx p=true)/\Boxed W w.heap.size 3 (.int .i64 (i:Int)))/\Below w.heap.size w W)
  (OwnFrom.and (OwnFrom.and (fun _ _ _ _ O _ _=>O) (Own.from (boxed_own w.heap.size 3 (fun _:List (Nat×Int)=>.int .i64 0)) _)) (ownFrom_below (aU _) (by simp;omega)))
  (fun c=>OwnFrom.and (fun g W W' row h hg hr=>by
   obtain⟨i,k,hb⟩:=h;exact⟨i,k,boxed_own w.heap.size 3 (fun _:List (Nat×Int)=>.int .i64 (i:Int)) g W W' row hb hg (fun r e=>(hr r e).2)⟩) (ownFrom_below (aU _) (by simp;omega)))
  ⟨⟨(fun _ h=>by cases h),bR⟩,T⟩
  (fun x=>{ tmps:=#[.string s,undef,bZ (w.heap.size),.int .i64 (x.1:Int),.int .i32 x.2,undef,undef,.string s,.func (.func 245) #[] #[bZ (w.heap.size+1)],.int .i64 (x.1:Int),.int .i32 x.2,undef,undef,undef,undef,undef,undef,undef,undef,undef,undef,undef,undef,undef,undef,undef],defers:=[] }) ?assign ?body ?done ?stop
 case assign=>
  intro l x W K o
  gi_wp2
  exact o
 case body=>
  rintro l g x W ⟨⟨k,b⟩,u⟩ _;have I:=b.cell;have V:=b.frozen;have P:=aA b;have HP:=aA k;have B:Hid (qx x=((x.2 != 9)&&hJ x.2)):=rfl;clear b k;obtain⟨y,r⟩:=x;dsimp only at B;by_cases S:r=9
  .subst S
   have C:Hid (qx (y,9)=false):=B
   gi_wp2_with fail
   refine⟨eV,?_⟩
   gi_wp2_with fail
   exact⟨KeepsFrom.refl _ _,rfl,⟨fun p k=>(mf.1 k).elim (HP p) (fun e=>by simp at e;subst e;exact C),P⟩,u⟩
  .have L:(r==9)=false:=dI.2 S
   have M:(r != 9)=true:=by simp[S]
   rw[M,vB]at B
   gi_wp2_with fail
   refine⟨eV,(fun _=>by omega),?_⟩;refine(CallsIn.inRound l (nJ.2 (Yh r _))).mono ?_;rintro e w' ⟨rfl,rfl⟩
   cases hx:hJ r with
   |true=>
    have C:=aA (show qx (y,r)=true by rw[B.out,hx])
    clear hx
    gi_wp2
    exact⟨(KeepsOthers.setCell _ _ _).from _,⟨y,⟨rfl,(y,r),by simp,C⟩,Boxed.set (.int .i64 (y:Int)) P⟩,u.setCell (p:=⟨w.heap.size,0,none⟩) (aU _) _⟩
   |false=>
    have C:=aA (show qx (y,r)=false by rw[B.out,hx])
    clear hx
    gi_wp2
    exact⟨KeepsFrom.refl _ _,rfl,⟨fun p k=>(mf.1 k).elim (HP p) (fun e=>by simp at e;subst e;exact C),P⟩,u⟩
 case done=>
  rintro D ys W N rfl ⟨⟨k,b⟩,u⟩ o;have I:=b.cell;have V:=b.frozen;have Z:Hid (ys.any qx=false):=by
   show _=_;rw[vI];intro x hx;simp[k x hx]
  have z:=aA b;clear I V b
  gi_wp2_with fail
  refine⟨eV,?_⟩;refine(nJ.2 (J' s W O)).mono ?_;rintro e v ⟨rfl,R⟩;have X:D<W.heap.size:=(bY.1 o).1;have F:v.heap[D]? =some (.deferred (some [])):=(ma R D X).trans o
  have H:Boxed v w.heap.size 3 (.int .i64 0):=(ma R w.heap.size (aI z)).trans z;have E:Below w.heap.size w v:=Gr.trans (a:=w) u R;have I:=H.cell;have V:=H.frozen;generalize iH (bl s)=Q at*
  generalize ls 0 (bl s)=m at*
  by_cases U:Q=0
  .subst U
   gi_wp2_with fail
   have d:=(KeepsOthers.setCell v (aD (w.heap.size) 0) (.int .i64 (-1))).same D _ F rfl;refine⟨by simp,.inl ⟨_,_,rfl,run_takeDeferred d,?_⟩⟩;have j:=cell_kept (EP v (aD (w.heap.size) 0) (.int .i64 (-1)) (by rw[I];rfl)) (grownBy_putObj' _ D (.deferred none)) (fun r e=>by cases e;exact⟨_,d,rfl⟩);refine⟨.int .i64 (-1),?_,⟨-1,rfl,by rw[Z.out];rfl⟩,(E.setCell (p:=⟨w.heap.size,0,none⟩) (aU _) _).trans (belowK_b (w:=w) (aU _) _ D _ _ (by simp at N;omega) d rfl rfl)⟩;simp[results,Tryz.f195,go_sem,j]
  .have L:(Q==0)=false:=dI.2 U
   have M:(Q != 0)=true:=by simp[U]
   gi_wp2_with fail
   have d:=(KeepsOthers.setCell v (aD (w.heap.size) 0) (.int .i64 (m:Int))).same D _ F rfl;refine⟨by simp,.inl ⟨_,_,rfl,run_takeDeferred d,?_⟩⟩;have j:=cell_kept (EP v (aD (w.heap.size) 0) (.int .i64 (m:Int)) (by rw[I];rfl)) (grownBy_putObj' _ D (.deferred none)) (fun r e=>by cases e;exact⟨_,d,rfl⟩);refine⟨.int .i64 (m:Int),?_,⟨(m:Int),rfl,by rw[Z.out,L];simp⟩,(E.setCell (p:=⟨w.heap.size,0,none⟩) (aU _) _).trans (belowK_b (w:=w) (aU _) _ D _ _ (by simp at N;omega) d rfl rfl)⟩;simp[results,Tryz.f195,go_sem,j]
 case stop=>
  rintro D c g W N J ⟨⟨i,⟨rfl,x,hx,Y⟩,b⟩,u⟩ o
  gi_wp2
  refine⟨by simp,.inl ⟨_,_,rfl,run_takeDeferred o,?_⟩⟩;have j:=cell_kept b.cell (grownBy_putObj' _ D (.deferred none)) (fun r e=>by cases e;exact⟨_,o,rfl⟩);have G:t.any qx=true:=mD.2 ⟨x,J.subset hx,Y⟩;refine⟨.int .i64 (i:Int),?_,⟨(i:Int),rfl,by rw[G];simp⟩,u.trans (belowK_b (w:=w) (aU _) W D _ _ (by simp at N;omega) o rfl rfl)⟩;simp[results,Tryz.f195,go_sem,j]
def abr(s:aJ)(w:aB)(a:s.size<=140737488351232):Calls prog 195 #[.string s] w (FV (pa (bl s)) w):=nJ.1 (Ug s w a 3 (by omega) _ rfl)
end
section
open Go.RowKit Go.Shelf
attribute [local go_sem] Oper.semAt_some
def acv(c:UInt8)(s:aM)(h:s≠[]):(Lib.cut s [c]).2.1.length<s.length:=by
 have a:0<s.length:=rd.2 h;unfold Lib.cut;split
 .rename_i hi
  have:=Lib.index_room s [c] hi;simp only[eh,jN]at this|-
  omega
 .exact a
def nC:Nat->Nat->aM->List (Nat×aJ)
 |0,_,_=>[]
 |f+1,i,l=>if l=[]then[]else(i,bs (Lib.cut l [10]).1)::nC f (i+1) (Lib.cut l [10]).2.1
def LO(f i:Nat):nC f i []=[]:=by cases f<;>rfl
def CQ(f i:Nat)(l:aM)(h:l≠[])(a:l.length<=f):nC f i l=(i,bs (Lib.cut l [10]).1)::nC (f-1) (i+1) (Lib.cut l [10]).2.1:=by
 have b:0<l.length:=rd.2 h;obtain⟨g,rfl⟩:∃g,f=g+1:=⟨f-1,by omega⟩;show(if l=[]then[]else _)=_;rw[aF h];rfl
def yL(s:aJ):List (Nat×aJ):=nC s.size 0 (bl s)
def Jl:Value->Nat
 | .string s=>s.size
 |_=>0
def uG(B:Nat)(W a:aB):Prop:=a.heap[B]? =W.heap[B]? /\a.heap[4]? =W.heap[4]?
def adm{B:Nat}{a b c:aB}(h:uG B a b)(k:uG B b c):uG B a c:=⟨k.1.trans h.1,k.2.trans h.2⟩
def Fs{W a:aB}(h:a.heap[4]? =W.heap[4]?) (c:ff W):ff a:=by
 obtain⟨m,b⟩:=c;refine⟨m,?_⟩;simp only[World.cell?]at b|-
 rw[h];exact b
def acm(n:Nat)(hn:1<=n)(l L:Nat)(s:aJ)(hs:s.size<=1000000)(b:List (Nat×aJ))(hA:Hid (b=nC s.size 0 (bl s)))(J T:List (Nat×aJ)->aB->Prop)(W:aB)(E:AbidesFrom W.heap.size J)
  (V:ff W)
  (Y:∀a x N,J a N->a.length<b.length->YieldAt Fence.wide (n-1) prog l #[.int .i64 (x.1:Int),.string x.2] N fun e z=>
   (e=.returned (.bool true)/\J (a++[x]) z/\uG L N z)\/(e=.returned (.bool false)/\T (a++[x]) z))
  (B:Boxed W L 9 (.string s)) (h0:J [] W):
  CallsIn Fence.wide n prog 225 #[.func (.yield l) #[] #[],bZ L] W fun e z=>(∃v,e=.returned v)/\
   ((∃ys,ys=b/\J ys z)\/(∃a,a<+:b/\T a z)):=by
 refine callsIn_of_wp func225 rfl eV ?_ rfl;simp only[ntmps225,bQ,dN,iJ,Nat.reduceAdd,Nat.reduceSub,xy,wZ,xj,yK,mZ,mB];have HY:=aA Y;have HJ:=aA E;have hc:=B.cell;have M:=aA V
 gi_wp2
 gi_loopw [3,4,5,6,7,9,10,11,12,13,14,15,16,17,18,19,20,21,22,23,24] (fun r i _ _ _ _ _ _ _ _ _ _ _ _ _ _ _ _ _ _ _ wr=>∃(k f:Nat) (t:aJ) (a:List (Nat×aJ)),r=.string t/\i=.int .i64 k/\t.size<=f/\k+f<=s.size/\Hid (b=a++nC f k (bl t))/\Hid (ff wr)/\J a wr)
  (fun r _ _ _ _ _ _ _ _ _ _ _ _ _ _ _ _ _ _ _ _ _=>Jl r)
 .exact⟨0,s.size,s,[],rfl,rfl,aU _,by omega,hA,M,h0⟩
 .
  obtain⟨k,f,t,a,rfl,rfl,hf,a2,K,C,q⟩:=hrel;obtain⟨m,hm⟩:=C.out;by_cases c:t.size=0
  .have H:t=⟨#[]⟩:=by
    have h1:t.data.size=0:=c;have h2:=Nm h1
    cases t with|mk d=>exact ei ByteArray.mk h2
   subst H;have j:Hid (a=b):=by
    have:=K.out;rw[show bl (⟨#[]⟩:aJ)=[]from rfl,LO,je]at this;exact this.symm
   gi_wp2
   go_end0
   exact⟨⟨_,rfl⟩,.inl ⟨_,j,q⟩⟩
  .have y:bl t≠[]:=fun h=>c (by rw[<-bN,h];rfl)
   have H:t.toList.isEmpty=false:=by rw[hI,tp];exact y
   have w:=acv 10 (bl t) y;rw[bN]at w;have j:Hid (b=(a++[(k,bs (Lib.cut (bl t) [10]).1)])++nC (f-1) (k+1) (Lib.cut (bl t) [10]).2.1):=by
    have:=K.out;rw[CQ f k (bl t) y (by rw[bN];exact hf)]at this;simpa[Hid]using this
   have p:Hid (∀W,W.cell? (aD 4 0)=some (.int .i64 m)->Calls prog 222 #[.string t,.string ⟨#[10]⟩] W fun e w'=>e=.returned (.tuple #[.string (bs (Lib.cut (bl t) [10]).1),.string (bs (Lib.cut (bl t) [10]).2.1),.bool (Lib.cut (bl t) [10]).2.2])/\∃n,w'=W.drewN n):=fun W hW=>Tryz.strings_Cut t ⟨#[10]⟩ m W (by omega) hW;clear K;generalize bs (Lib.cut (bl t) [10]).1=X at*
   obtain⟨R,u⟩:=ex (bs (Lib.cut (bl t) [10]).2.1);have G:bl R=(Lib.cut (bl t) [10]).2.1:=by rw[<-u];rfl
   rw[<-G]at j w;rw[u]at p;rw[bN]at w;generalize(Lib.cut (bl t) [10]).2.2=Z at*
   gi_wp2_with fail
   refine⟨eV,?_⟩;refine(nJ.2 (p _ hm)).mono ?_;rintro e w' ⟨rfl,nd,rfl⟩;have g:=(Gr.refl wr).drewN nd;have D:=HJ _ _ _ none q ⟨vE g,aeR g,vr g,BM g,fun k hk _=>ma g k hk⟩ (fun r e=>by cases e);have o:a.length<b.length:=by rw[j.out];simp
   obtain⟨fn,a1,I,U,hy,hR⟩:=HY.out _ (k,X) _ D o;dsimp only at hy;have O:Hid (ff (wr.drewN nd)):=C.gr g
   gi_wp2_with fail
   refine hR.mono ?_;rintro e W3 (⟨rfl,Q,S⟩|⟨rfl,F⟩)
   .have P:Hid (ff W3):=Fs S.2 O
    gi_wp2_with fail
    go_roundw
    .exact⟨k+1,f-1,R,_,rfl,by go_num,by omega,by omega,j,P,Q⟩
    .simp[Jl];omega
   .gi_wp2_with fail
    refine bI (xT rfl _ _ _) rfl ?_;exact⟨⟨_,rfl⟩,.inr ⟨_,⟨_,j.symm⟩,F⟩⟩
def PI(n:Nat)(k:1<=n)(a:Nat)(s:aJ)(m:s.size<=1000000)(w:aB)(b:Boxed w a 9 (.string s))(h:ff w)(c:4 <w.heap.size):
  SeqStopsK Fence.wide n prog 225 #[bZ a] (fun x:Nat×ByteArray=>#[Value.int .i64 (x.1:Int),Value.string x.2]) (uG a) (fun o=>o=yL s) (fun d=>d<+:yL s) (yL s).length w:=
 fun l J f W e i _ j g=>acm n k l a s m _ rfl J f W i (Fs (e.block _ c) h) j (show W.heap[a]? =_ by rw[e.block a b.lt];exact b) g
def aaD{B:Nat}{w:aB}(h:B<w.heap.size)(b:4 <w.heap.size):∀(W:aB) (l:Nat) (o a:Obj),w.heap.size<=l->W.heap[l]? =some o->o.isCells=false->o.isWalk=false->uG B W (W.putObj l a):=
 fun W l o a c _ _ _=>⟨World.putObj_heap_other (by omega),World.putObj_heap_other (by omega)⟩
end
section
open Go.RowKit Go.Shelf
attribute [local go_sem] Oper.semAt_some
def jg(N:Nat)(a:Int)(x:aJ):Int:=
 if IntKind.i64.wrap (a+(x.size:Int))=(N:Int)then 4 else if 998<x.size then 5 else if pa (bl x)=true then 6 else 0
def qd(a:Int)(x:aJ):Int:=IntKind.i64.wrap (IntKind.i64.wrap (a+(x.size:Int))+1)
def mI(a:Int)(l:List (Nat×aJ)):Int:=l.foldl (fun o x=>qd o x.2) a
def iW(N:Nat):Int->List (Nat×aJ)->Int
 |_,[]=>0
 |off,x::l=>if jg N off x.2=0 then iW N (qd off x.2) l else jg N off x.2
def XE(a:Int)(l:List (Nat×aJ))(x:Nat×aJ):mI a (l++[x])=qd (mI a l) x.2:=by
 unfold mI;rw[ta];rfl
def Lh(N:Nat)(l r:List (Nat×aJ))(a:Int):iW N a (l++r)=if iW N a l=0 then iW N (mI a l) r else iW N a l:=by
 induction l generalizing a with
 |nil=>rfl
 |cons x l b=>
  show(if jg N a x.2=0 then iW N (qd a x.2) (l++r)else jg N a x.2)=if(if jg N a x.2=0 then iW N (qd a x.2) l else jg N a x.2)=0 then iW N (mI (qd a x.2) l) r else(if jg N a x.2=0 then iW N (qd a x.2) l else jg N a x.2)
  by_cases h:jg N a x.2=0
  .rw[aG h,aG h,b]
  .rw[aF h,aF h,aF h]
def QF(N:Nat)(a:Int)(x:Nat×aJ):iW N a [x]=jg N a x.2:=by
 show(if jg N a x.2=0 then 0 else jg N a x.2)=_;by_cases h:jg N a x.2=0
 .rw[aG h,h]
 .rw[aF h]
def Yj(N:Nat)(a:Int)(l r:List (Nat×aJ))(h:l<+:r)(b:iW N a l≠0):iW N a r=iW N a l:=by
 obtain⟨t,rfl⟩:=h;rw[Lh,aF b]
def o3(s:aJ):Int:=iW s.size 0 (yL s)
def BV(z:Int)(w:aB)(e:Ending)(w':aB):Prop:=(∃i:Int,e=.returned (.tuple #[.int .i64 i,.int .i64 z]))/\Gr w w'
def Tk(s:aJ)(hs:s.size<=1000000)(w:aB)(hE:ff w)(n:Nat)(hn:3<=n)(O:List (Nat×aJ))(hA:Hid (yL s=O)):
  CallsIn Fence.wide n prog 161 #[.string s] w (BV (iW s.size 0 O) w):=by
 have h1:1<=n:=by omega
 have hM:4 <w.heap.size:=by
  obtain⟨m,S⟩:=hE;exact ka w _ S
 refine callsIn_of_wp_marks func161 rfl eV ?_ rfl;simp only[ntmps161,bQ,dN,iJ,Nat.reduceAdd,Nat.reduceSub,xy,wZ,xj,yK,mZ,mB]
 gi_wp2_with fail
 refine⟨eV,?_⟩;refine(nJ.2 (Ut s _)).mono ?_;rintro e w2 ⟨rfl,rfl⟩
 gi_wp2_with fail
 obtain⟨b,hb⟩:=ex w.heap.size;have C:Below w.heap.size w (((((w.alloc (.cells #[.string s] 9)).alloc (.cells #[.int .i64 0] 3)).alloc (.cells #[.int .i64 0] 56)).alloc (.cells #[.int .i64 0] 3)).alloc (.cells #[.string s] 9)):=(((((Gr.refl w).alloc _).alloc _).alloc _).alloc _).alloc _;have a2:Boxed (((((w.alloc (.cells #[.string s] 9)).alloc (.cells #[.int .i64 0] 3)).alloc (.cells #[.int .i64 0] 56)).alloc (.cells #[.int .i64 0] 3)).alloc (.cells #[.string s] 9)) b 9 (.string s):=((((((Gr.refl _).alloc _).alloc _).alloc _).alloc _).block (by simp;omega)).trans (aY _ _ _ (by omega));have a3:Boxed (((((w.alloc (.cells #[.string s] 9)).alloc (.cells #[.int .i64 0] 3)).alloc (.cells #[.int .i64 0] 56)).alloc (.cells #[.int .i64 0] 3)).alloc (.cells #[.string s] 9)) (b+1) 3 (.int .i64 0):=(((((Gr.refl _).alloc _).alloc _).alloc _).block (by simp;omega)).trans (aY _ _ _ (by simp;omega));have a4:Boxed (((((w.alloc (.cells #[.string s] 9)).alloc (.cells #[.int .i64 0] 3)).alloc (.cells #[.int .i64 0] 56)).alloc (.cells #[.int .i64 0] 3)).alloc (.cells #[.string s] 9)) (b+1+1) 56 (.int .i64 0):=((((Gr.refl _).alloc _).alloc _).block (by simp;omega)).trans (aY _ _ _ (by simp;omega));have a5:Boxed (((((w.alloc (.cells #[.string s] 9)).alloc (.cells #[.int .i64 0] 3)).alloc (.cells #[.int .i64 0] 56)).alloc (.cells #[.int .i64 0] 3)).alloc (.cells #[.string s] 9)) (b+1+1+1) 3 (.int .i64 0):=(((Gr.refl _).alloc _).block (by simp;omega)).trans (aY _ _ _ (by simp;omega));have M:Boxed (((((w.alloc (.cells #[.string s] 9)).alloc (.cells #[.int .i64 0] 3)).alloc (.cells #[.int .i64 0] 56)).alloc (.cells #[.int .i64 0] 3)).alloc (.cells #[.string s] 9)) (b+1+1+1+1) 9 (.string s):=aY _ _ _ (by simp;omega);rw[hb];generalize((((w.alloc (.cells #[.string s] 9)).alloc (.cells #[.int .i64 0] 3)).alloc (.cells #[.int .i64 0] 56)).alloc (.cells #[.int .i64 0] 3)).alloc (.cells #[.string s] 9)=W0 at*
 have af:=M.lt;have H:=PI (n-1) (by omega) (b+1+1+1+1) s hs W0 M (hE.gr C) (dQ hM C.size);rw[hA.out]at H
 refine wpIn_rangeFunc_ownG rfl h1 (gf:=225) (lb:=#[bZ (b+1+1+1+1)]) rfl eV (lV func225 (by kernel_rfl) rfl)
  H adm (aaD (by omega) (by omega)) (tI _ _) (fun _=>rfl)
  (fun d W=>((((((iW s.size 0 d=0/\ff W)/\Boxed W (b+1+1+1+1) 9 (.string s))/\Boxed W b 9 (.string s))/\Boxed W (b+1) 3 (.int .i64 0))/\Boxed W (b+1+1) 56 (.int .i64 0))/\Boxed W (b+1+1+1) 3 (.int .i64 (mI 0 d)))/\Below w.heap.size w W)
  (fun c d W=>(∃(i z:Int),(c=.ret/\iW s.size 0 d=z/\z≠0)/\Boxed W (b+1) 3 (.int .i64 i)/\Boxed W (b+1+1) 56 (.int .i64 z))/\Below w.heap.size w W)
  (OwnFrom.and (OwnFrom.and (OwnFrom.and (OwnFrom.and (OwnFrom.and (OwnFrom.and (fun d W W' row hs hg hr=>⟨hs.1,by
   obtain⟨m,S⟩:=hs.2;exact⟨m,cell_kept S hg (fun r e=>(hr r e).2)⟩⟩) (Own.from (boxed_own (b+1+1+1+1) 9 (fun _:List (Nat×aJ)=>.string s)) _)) (Own.from (boxed_own b 9 (fun _:List (Nat×aJ)=>.string s)) _)) (Own.from (boxed_own (b+1) 3 (fun _:List (Nat×aJ)=>.int .i64 0)) _)) (Own.from (boxed_own (b+1+1) 56 (fun _:List (Nat×aJ)=>.int .i64 0)) _)) (Own.from (boxed_own (b+1+1+1) 3 (fun d:List (Nat×aJ)=>.int .i64 (mI 0 d))) _)) (ownFrom_below (aU _) (by omega)))
  (fun c=>OwnFrom.and (fun d W W' row h hg hr=>by
   obtain⟨i,z,hp,a6,a7⟩:=h;exact⟨i,z,hp,boxed_own (b+1) 3 (fun _:List (Nat×aJ)=>.int .i64 i) d W W' row a6 hg (fun r e=>(hr r e).2),boxed_own (b+1+1) 56 (fun _:List (Nat×aJ)=>.int .i64 z) d W W' row a7 hg (fun r e=>(hr r e).2)⟩) (ownFrom_below (aU _) (by omega)))
  ⟨⟨⟨⟨⟨⟨⟨rfl,hE.gr C⟩,M⟩,a2⟩,a3⟩,a4⟩,a5⟩,C⟩
  (fun x=>{ tmps:=#[.string s,bZ b,bZ (b+1),bZ (b+1+1),bZ (b+1+1+1),undef,.string x.2,undef,undef,.string s,.func (.func 225) #[] #[bZ (b+1+1+1+1)],.int .i64 (x.1:Int),.string x.2,undef,undef,undef,undef,undef,undef,undef,undef,undef,undef,undef,undef,undef,undef,undef,undef,undef,undef,undef,undef,undef,undef,undef,undef],defers:=[] }) ?assign ?body ?done ?stop
 case assign=>
  intro l x W K G
  gi_wp2
  exact G
 case body=>
  rintro l d ⟨xo,x⟩ W ⟨⟨⟨⟨⟨⟨⟨hq,L⟩,N⟩,E⟩,g⟩,k⟩,u⟩,J⟩ _;have c0:=E.cell;have c1:=g.cell;have f1:=g.frozen;have c2:=k.cell;have f2:=k.frozen;have c3:=u.cell;have f3:=u.frozen;have X0:=aA E;have X4:=aA N;have Z:=aA g;have X2:=aA k;have X3:=aA u;have P:=aA L;have Q:Hid (jg s.size (mI 0 d) x=if IntKind.i64.wrap (mI 0 d+(x.size:Int))=(s.size:Int)then 4 else if 998<x.size then 5 else if pa (bl x)=true then 6 else 0):=rfl;have HN:Hid (mI 0 (d++[(xo,x)])=IntKind.i64.wrap (IntKind.i64.wrap (mI 0 d+(x.size:Int))+1)):=XE 0 d (xo,x);have y:Hid (∀z,jg s.size (mI 0 d) x=z->iW s.size 0 (d++[(xo,x)])=z):=fun z hz=>by rw[Lh,aG hq,QF];exact hz
  generalize jg s.size (mI 0 d) x=le at*
  obtain⟨V,ab⟩:=ex (IntKind.i64.wrap (mI 0 d+(x.size:Int)));rw[ab]at Q HN;generalize mI 0 d=o0 at*
  clear E g k u N hq L;by_cases o:V=(s.size:Int)
  .have q:le=4:=by rw[Q.out,aG o]
   have I:=aA (y 4 q);have a8:(V==(s.size:Int))=true:=by simp[o]
   gi_wp2_with fail
   exact⟨((KeepsOthers.setCell _ _ _).trans (KeepsOthers.setCell _ _ _)).from _,⟨_,4,⟨rfl,I,by decide⟩,Boxed.other (Boxed.set _ Z) (by omega) _,Boxed.set _ (Boxed.other X2 (by omega) _)⟩,(J.setCell (p:=⟨b+1,0,none⟩) (by show _<=b+1;omega) _).setCell (p:=⟨b+1+1,0,none⟩) (by show _<=b+1+1;omega) _⟩
  .have a8:(V==(s.size:Int))=false:=dI.2 o
   by_cases t:998<x.size
   .have q:le=5:=by rw[Q.out,aF o,aG t]
    have I:=aA (y 5 q);have aa:(998:Int)<(x.size:Int):=by omega
    gi_wp2_with fail
    exact⟨((KeepsOthers.setCell _ _ _).trans (KeepsOthers.setCell _ _ _)).from _,⟨_,5,⟨rfl,I,by decide⟩,Boxed.other (Boxed.set _ Z) (by omega) _,Boxed.set _ (Boxed.other X2 (by omega) _)⟩,(J.setCell (p:=⟨b+1,0,none⟩) (by show _<=b+1;omega) _).setCell (p:=⟨b+1+1,0,none⟩) (by show _<=b+1+1;omega) _⟩
   .have aa:¬(998:Int)<(x.size:Int):=by omega
    have ac:x.size<=140737488351232:=by omega
    gi_wp2_with fail
    refine⟨eV,(fun _=>by omega),?_⟩;refine(CallsIn.inRound l (nJ.2 (abr x W ac))).mono ?_;rintro e F ⟨⟨i,rfl,hi⟩,v⟩;have X:Hid (Boxed F (b+1) 3 (.int .i64 0)):=(ma v _ Z.lt).trans Z;have Y:Hid (Boxed F (b+1+1) 56 (.int .i64 0)):=(ma v _ X2.lt).trans X2;have K3:Hid (Boxed F (b+1+1+1) 3 (.int .i64 o0)):=(ma v _ X3.lt).trans X3;have K0:Hid (Boxed F b 9 (.string s)):=(ma v _ X0.lt).trans X0;have R:Below w.heap.size w F:=Gr.trans (a:=w) J v;have KF:=aA (KeepsFrom.of_grownBy (B:=W0.heap.size) (Gr.grownBy v) (fun j hj=>by cases hj));clear c0 c1 f1 c2 f2 c3 f3;have c1:=X.cell;have f1:=X.frozen;have c2:=Y.cell;have f2:=Y.frozen;have c3:=K3.cell;have f3:=K3.frozen
    cases hbd:pa (bl x)with
    |true=>
     have q:le=6:=by rw[Q.out,aF o,aF t,aG hbd]
     have I:=aA (y 6 q);rw[hbd]at hi;have a9:0<=i:=oG hi
     gi_wp2_with fail
     exact⟨KF.trans (((KeepsOthers.setCell _ _ _).trans (KeepsOthers.setCell _ _ _)).from _),⟨_,6,⟨rfl,I,by decide⟩,Boxed.other (Boxed.set _ X) (by omega) _,Boxed.set _ (Boxed.other Y (by omega) _)⟩,(R.setCell (p:=⟨b+1,0,none⟩) (by show _<=b+1;omega) _).setCell (p:=⟨b+1+1,0,none⟩) (by show _<=b+1+1;omega) _⟩
    |false=>
     have q:le=0:=by rw[Q.out,aF o,aF t,hbd];rfl
     have I:=aA (y 0 q);rw[hbd]at hi;have a9:¬0<=i:=tm hi;have a1:=aA HN.symm;have HE3:=aA (P.gr v);have K4:Hid (Boxed F (b+1+1+1+1) 9 (.string s)):=(ma v _ X4.lt).trans X4
     have HM:Hid (4 <W.heap.size):=by
      obtain⟨m,S⟩:=P.out;exact ka W _ S
     gi_wp2_with fail
     refine⟨KF.trans ((KeepsOthers.setCell _ _ _).from _),⟨?_,?_⟩,⟨⟨⟨⟨⟨⟨⟨I,?_⟩,Boxed.other K4 (by omega) _⟩,Boxed.other K0 (by omega) _⟩,Boxed.other X (by omega) _⟩,Boxed.other Y (by omega) _⟩,?_⟩,R.setCell (p:=⟨b+1+1+1,0,none⟩) (by show _<=b+1+1+1;omega) _⟩⟩
     .rw[yv F _ _ _ (by show b+1+1+1+1≠b+1+1+1;omega)]
      exact ma v _ X4.lt
     .rw[yv F _ _ _ (by show _≠b+1+1+1;omega)]
      exact ma v _ HM
     .refine Fs ?_ HE3
      rw[yv F _ _ _ (by show _≠b+1+1+1;omega)]
     .rw[a1.out.symm,show IntKind.i64.wrap (V+1)=wrap64 (V+1)from by unfold wrap64;exact cV _]
      exact Boxed.set _ K3
 case done=>
  rintro D ys W hD rfl ⟨⟨⟨⟨⟨⟨⟨hq,L⟩,N⟩,E⟩,g⟩,k⟩,u⟩,J⟩ G;have hc:=g.cell;have hf:=g.frozen;have ad:=k.cell;have ae:=k.frozen
  gi_wp2
  have k1:((W.setCell (aD (b+1) 0) (.int .i64 0)).setCell (aD (b+1+1) 0) (.int .i64 0)).heap[D]? =some (.deferred (some [])):=by
   rw[cG _ (aD (b+1+1) 0) D _ (by show D≠b+1+1;omega),cG _ (aD (b+1) 0) D _ (by show D≠b+1;omega)];exact G
  have x1:=(Boxed.other (Boxed.set (.int .i64 0) g) (show b+1≠b+1+1 by omega) (.int .i64 0)).cell;have x2:=(Boxed.set (.int .i64 0) (Boxed.other k (show b+1+1≠b+1 by omega) (.int .i64 0))).cell;have hG:Gr w ((W.setCell (aD (b+1) 0) (.int .i64 0)).setCell (aD (b+1+1) 0) (.int .i64 0)):=(Gr.setOwn (b:=b+1) J (by omega) _).setOwn (by omega) _;generalize(W.setCell (aD (b+1) 0) (.int .i64 0)).setCell (aD (b+1+1) 0) (.int .i64 0)=W2 at*
  refine⟨by simp,.inl ⟨_,_,rfl,run_takeDeferred k1,?_⟩⟩;have y1:=cell_kept x1 (grownBy_putObj' W2 D (.deferred none)) (fun r e=>by cases e;exact⟨_,k1,rfl⟩);have y2:=cell_kept x2 (grownBy_putObj' W2 D (.deferred none)) (fun r e=>by cases e;exact⟨_,k1,rfl⟩);refine⟨.tuple #[.int .i64 0,.int .i64 0],?_,⟨0,by rw[hq]⟩,vQ hG (belowK_b (w:=w) (aU _) W2 D _ _ (by omega) k1 rfl rfl)⟩;simp[results,Tryz.f161,go_sem,y1,y2]
 case stop=>
  rintro D c d W hD T ⟨⟨i,z,⟨rfl,hz,U⟩,g,k⟩,J⟩ G
  gi_wp2
  refine⟨by simp,.inl ⟨_,_,rfl,run_takeDeferred G,?_⟩⟩;have y1:=cell_kept g.cell (grownBy_putObj' W D (.deferred none)) (fun r e=>by cases e;exact⟨_,G,rfl⟩);have y2:=cell_kept k.cell (grownBy_putObj' W D (.deferred none)) (fun r e=>by cases e;exact⟨_,G,rfl⟩);refine⟨.tuple #[.int .i64 i,.int .i64 z],?_,⟨i,by rw[Yj _ _ _ _ T (by rw[hz];exact U),hz]⟩,vQ J (belowK_b (w:=w) (aU _) W D _ _ (by omega) G rfl rfl)⟩;simp[results,Tryz.f161,go_sem,y1,y2]
def adI(s:aJ)(b:s.size<=1000000)(w:aB)(a:ff w):Calls prog 161 #[.string s] w (BV (o3 s) w):=nJ.1 (Tk s b w a 3 (by omega) _ rfl)
end
def mW(i:Id):ByteArray:=bs (ic i)
def ln(l:List Id):ByteArray:=if gq l=0 then bs (Lib.join ((l.map mW).map bl) (bl ⟨#[32]⟩))else⟨#[]⟩
def Ju(l:List Id):(Lib.join ((l.map mW).map bl) (bl ⟨#[32]⟩)).length<=72*l.length:=by
 have c:∀i:Id,(bl (mW i)).length=71:=fun i=>by
  show(ic i).length=71;exact wX i
 induction l with
 |nil=>simp[Lib.join]
 |cons a l d=>
  cases l with
  |nil=>rw[gt,gt,nI,nI,nO,c];simp
  |cons b l=>
   rw[gt,gt,gt,gt,t_,<-gt,<-gt (f:=mW),bV,bV,c];have e:(bl (⟨#[32]⟩:aJ)).length=1:=rfl;simp only[dN]at d|-
   omega
def Qv(l:List Id)(v:Value)(w:aB)(F:nX w v l):Calls prog 110 #[v] w (RG w (.tuple #[.string (ln l),.int .i64 (gq l)])):=by
 have j:=aA (H' l v w F);obtain⟨a,N,rfl,hc,P⟩:=id F;rw[cL]at hc j|-
 have HV:=aA F;clear P F;have z:Hid (ln l=if gq l=0 then bs (Lib.join ((l.map mW).map bl) (bl ⟨#[32]⟩))else⟨#[]⟩):=rfl
 have L:Hid (gq l=0->l.length<=20):=fun h=>by
  by_cases O:20<l.length
  .unfold gq at h;rw[aG O]at h;cases h
  .omega
 generalize gq l=U at*
 by_cases G:U=0
 .subst G
  have Z:=L rfl;have d:ln l=bs (Lib.join ((l.map mW).map bl) (bl ⟨#[32]⟩)):=by rw[z.out];exact aG rfl
  have HM:=aA d;have HJ:=aA (Ju l);have HN:Hid (∀k (h:k<l.length),(l.take (k+1)).map mW=(l.take k).map mW++[mW l[k]]/\((l.take k).map mW).length=k):=fun k h=>⟨by rw[eF h,gD];rfl,by rw[cL,dP];omega⟩;rw[d];clear d z L;go_in;go_wp2_with fail;refine bA j fun w1 B=>?_;have G1:=aA B;clear B;go_wp2_with fail
  go_loopw [5,15] (fun v i wr=>∃k:Nat,k<=l.length/\i=.int .i64 k/\Hid (Gr w wr)/\Hid (fs wr w.heap.size v ((l.take k).map mW))) (fun _ i _=>l.length-(intOf i).toNat)
  .exact⟨0,bW _,rfl,G1,fs.nil _ _⟩
  .
   obtain⟨k,hk,rfl,D,E⟩:=hrel;by_cases y:k<l.length
   .have Q:(k:Int)<(l.length:Int):=by omega
    have a4:=nn k
    obtain⟨a1,r,V,-,Y⟩:=HV.out.gr D.out;obtain⟨b,o,ha,a2,h1,X⟩:=Y k (by rw[cL];exact y);obtain⟨rfl,-,rfl⟩:a=a1/\l.length=(l.map bC).length/\N=r:=by simpa using V
    subst ha;rw[ig]at X;obtain⟨d,f⟩:=HN.out k y;have M:=aA d;have HA:Hid (∀W,CG 164 #[aE (bC l[k])] W (.string (mW l[k]))):=JK l[k];generalize mW l[k]=s at*
    generalize l[k]=x at*
    generalize(l.take k).map mW=ds at*
    have I:=aA f;have b1:=cC x;have b2:=gE x;clear Y d V f;go_wp2_with fail;refine bA (HA _) fun g c=>?_;have C:=((Gr.refl wr).alloc (aC (bC x) 26)).trans c;have p:=aA ((E.gr C).gr ((Gr.refl g).alloc (.cells #[.string s] 9)));have S:w.heap.size<=g.heap.size:=(D.trans C).size;have K:Hid (fs (g.alloc (.cells #[.string s] 9)) w.heap.size (aR (g.heap.size) 0 1 1) [s]):=fs.made (l:=[s]) (cM g _) S (by simp);have T:w.heap.size<=(g.alloc (.cells #[.string s] 9)).heap.size:=by simp;omega
    have H:=aA ((D.trans C).alloc (.cells #[.string s] 9));clear c C h1 X;go_wp2_with (refine yN _ rfl _ _ rfl w.heap.size u5 ds (by simp[Act.eval]) p (aR (g.heap.size) 0 1 1) [s] (by simp[Act.eval]) K (by have:=I.out;simp;omega) T ?_;intro a3 c3 w3 n t);have G3:=aA (H.grown t (fun q hq=>(fA p q hq).1));rw[bV,jN,<-M.out]at n;have J:=aA n;clear t n;go_roundw
    .exact⟨k+1,by omega,by go_num,G3,J⟩
    .simp[intOf];omega
   .have Q:¬(k:Int)<(l.length:Int):=by omega
    have u:l.take k=l:=eq (by omega);rw[u]at E;have m:=aA (E.join ⟨#[32]⟩ (eu HJ (by omega)) (by rw[cL];omega));obtain⟨s,R⟩:=ex (bs (Lib.join ((l.map mW).map bl) (bl ⟨#[32]⟩)));rw[R]at m;have HS:=aA R;clear u E R;go_wp2_with fail;refine bA m fun g c=>?_;have H:=aA (D.trans c);clear c m;go_wp2_with fail;go_ret2;exact⟨by rw[HS.out];rfl,H⟩
 .have a5:(U==0)=false:=dI.2 G
  have a6:(U != 0)=true:=by simp[G]
  have d:ln l=⟨#[]⟩:=by rw[z.out];exact aF G
  rw[d];clear d z L;go_in;go_wp2_with fail;refine bA j fun w1 B=>?_;go_wp2_with fail;go_ret2;exact⟨rfl,B⟩
def Pw(w:aB):Prop:=Lib.TabIs prog w "internal/strconv.uint64pow10" .u64 Lib.pow10Tab
def Db:prog.globalNamed "internal/strconv.uint64pow10" =some 5 :=by kernel_rfl
def Pw.gr{w w':aB}(h:Pw w)(a:Gr w w'):Pw w':=by
 have b:=ka w _ (h.cell Db 0 (aH rfl));unfold Pw Lib.TabIs World.var? at*
 rw[Db]at*
 simp only[Option.bind_some]at*
 rw[a.block b];exact h
def me(n:Int):Prop:=-9223372036854775808<=n/\n<=9223372036854775807
def Fz(n:Int)(a:me n)(w:aB)(c:Pw w):Calls prog 113 #[.int .i64 n] w (RG w (.string (gu n))):=by
 have b:Hid (CG 166 #[.int .i64 n] w (.string (gu n))):=
  (Tryz.strconv_Itoa n a.1 a.2 w c).mono fun e w' ⟨d,k,h,g⟩=>⟨d,by rw[g];exact(j' w ⟨k,h⟩).1⟩
 go_in;go_wp2_with (go_at_call 166;refine bA b fun w' f=>?_);go_ret;exact⟨rfl,f⟩
def nl(i:Id):ByteArray:=if(i==bM)=true then⟨#[]⟩else bs (ic i)
def Wy(i:Id)(w:aB):Calls prog 114 #[aE (bC i)] w (RG w (.string (nl i))):=by
 obtain⟨n,s⟩:=ex w.heap.size;have b:Hid (HB (w.alloc (aC (bC i) 26)) n (bC i) 26):=aY _ _ _ s.symm
 have f:Hid (Gr w (w.alloc (aC (bC i) 26))):=(Gr.refl w).alloc _;have g:=aA (xi i);have q:=aA (JK i);obtain⟨j,k,l⟩:=dL 32 (cC i) b.out;have r:=cC i;have h:Hid (nl i=if(i==bM)=true then⟨#[]⟩else bs (ic i)):=rfl;generalize nl i=o at*
 generalize(i==bM)=z at*
 generalize bs (ic i)=m at*
 cases z with
 |true=>
  have d:o=⟨#[]⟩:=by rw[h.out];exact aG rfl
  subst d;go_in;go_wp2_with (go_at_call 167;refine bA (g _) fun p a=>?_);go_ret;exact⟨rfl,f.trans a⟩
 |false=>
  have d:o=m:=by rw[h.out];exact aF (by simp)
  subst d;go_in;go_wp2_with (first
   |(go_at_call 167;refine bA (g _) fun p a=>?_;clear j k l;obtain⟨j,k,l⟩:=dL 32 r ((a.block (aI b.out)).trans b.out))
   |(go_at_call 164;refine bA (q p) fun t c=>?_))
  go_ret;exact⟨rfl,f.trans (a.trans c)⟩
def nf(h:Int)(r:aK):ByteArray:=if cH h=0 then bs (mO h r)else⟨#[]⟩
def UN(h:Int)(r:aK)(w:aB)(i:iD w):Calls prog 165 #[aE (aN h r)] w (RG w (.tuple #[.string (nf h r),.int .i64 (cH h)])):=by
 by_cases hh:cH h=0
 .have a:1<=h/\h<=8:=by
   unfold cH at hh;by_cases k:h<1\/8<h
   .rw[aG k]at hh;cases hh
   .omega
  have e:nf h r=bs (mO h r):=by unfold nf;rw[aG hh]
  rw[e,hh];exact Wr h r w i a.1 a.2
 .have e:nf h r=⟨#[]⟩:=by unfold nf;rw[aF hh]
  rw[e];obtain⟨n,j⟩:=ex w.heap.size;have d:Hid (HB (w.alloc (aC (aN h r) 44)) n (aN h r) 44):=aY _ _ _ j.symm
  have f:Hid (Gr w (w.alloc (aC (aN h r) 44))):=(Gr.refl w).alloc _;have b:=aA (pf h r);have g:=bG h r;obtain⟨m,o,p⟩:=dL 17 g d.out;generalize cH h=z at*
  have l:(z != 0)=true:=by simp[hh]
  go_in;go_wp2_with (go_at_call 30;refine bA (b _) fun q c=>?_);go_ret2;exact⟨rfl,f.trans c⟩
def lT(k:bU):ByteArray:=gu k.number++⟨#[32]⟩++nf k.height k.root
def Vb(k:bU)(y:cN (aX k)=true)(q:me k.number)(w:aB)(i:iD w)(j:Pw w)(C:(lT k).size<=1000):Calls prog 111 #[aE (aX k)] w (RG w (.tuple #[.string (lT k),.int .i64 (cH k.height)])):=by
 obtain⟨n,h⟩:=ex w.heap.size;have b:Hid (HB (w.alloc (aC (aX k) 46)) n (aX k) 46):=aY _ _ _ h.symm
 have c:Hid (Gr w (w.alloc (aC (aX k) 46))):=(Gr.refl w).alloc _;have f:=jz b;have v:=f.pu0;have x:=f.pu1;have o:=aA (UN k.height k.root _ (i.gr c));have m:Hid (∀W,Gr w W->CG 113 #[.int .i64 k.number] W (.string (gu k.number))):=fun W p=>Fz k.number q W (j.gr p);have d:Hid (gu k.number++⟨#[32]⟩++nf k.height k.root=lT k):=rfl;have s:(gu k.number).size+1+(nf k.height k.root).size<=1000:=by
  have B:(lT k).size=(gu k.number).size+1+(nf k.height k.root).size:=by unfold lT;rw[ni,ni];rfl
  omega
 have r:((gu k.number).size:Int)+1<9223372036854775807:=by omega
 generalize gu k.number=F at*
 generalize nf k.height k.root=t at*
 go_in;go_wp2_with (go_at_call 165;refine bA o fun u a=>?_;have l:=(a.block (aI b)).trans b;have D:=(jz l).number;have E:=(jz l).z);refine bA (m u (c.trans a)) fun w' g=>?_;go_wp2_with fail;go_ret2;exact⟨by rw[<-d.out];rfl,c.trans (a.trans g)⟩
end Go.Proofs.YtjfaogajmoffoaaGreatDoor
