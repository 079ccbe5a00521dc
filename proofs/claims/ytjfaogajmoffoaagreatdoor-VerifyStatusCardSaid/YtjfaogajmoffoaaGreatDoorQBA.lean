/- Lemmas for VerifyStatus. -/
import Derived.Deep.MidRow
import Derived.Test.YtjfaogajmoffoaaGreatDoorChecked
import Derived.StillTail
import Derived.WalkSpells
import Derived.WalkLawsBesides
import Derived.Laws.AppendOwnNone
import Derived.DeepKeys4
import Derived.Test.YtjfaogajmoffoaaGreatDoorShelf
import Derived.Lib.SlBytesConst
set_option maxRecDepth 100000
set_option maxHeartbeats 16000000
set_option linter.all false
namespace Go.Proofs.YtjfaogajmoffoaaGreatDoor
open Go.RowKit Tryz
def Gr(w w':World):Prop:=Below w.heap.size w w'
def Gr.refl(w:World):Gr w w:=Below.refl _ _
def Gr.size{w w':World}(h:Gr w w'):w.heap.size<=w'.heap.size:=Below.size h
def Gr.trans{a b c:World}(h:Gr a b)(k:Gr b c):Gr a c:=Below.trans h (Below.mono k h.size)
def Gr.drew{a w:World}(h:Gr a w):Gr a w.drew:=Below.drew h
def Gr.drewN{a w:World}(h:Gr a w)(n:Nat):Gr a (w.drewN n):=below_drewN h n
def Gr.alloc{a w:World}(h:Gr a w)(o:Obj):Gr a (w.alloc o):=Below.alloc h h.size o
def Gr.setCell{a w:World}(h:Gr a w){p:Addr}(b:a.heap.size<=p.block)(u:Value):Gr a (w.setCell p u):=Below.setCell h b u
def Gr.grown{a w w':World}{row:Option Nat}(h:Gr a w)(b:w.grownBy w' row)(c:∀k,row=some k->a.heap.size<=k):Gr a w':=Below.grown h b h.size c
def Gr.cell{w w':World}(h:Gr w w'){p:Addr}(a:p.block<w.heap.size):w'.cell? p=w.cell? p:=Below.cell h a
def Gr.frozen{w w':World}(h:Gr w w'){p:Addr}(a:p.block<w.heap.size):w'.frozen? p=w.frozen? p:=Below.frozen h a
def Gr.block{w w':World}(h:Gr w w'){b:Nat}(a:b<w.heap.size):w'.heap[b]? =w.heap[b]? :=Below.block h b a
def Gr.grownBy{w w':World}(h:Gr w w'):w.grownBy w' none:=⟨h.os,h.tape,h.output,Below.size h,fun k a _=>Below.block h k a⟩
def Gr.of_grownBy{w w':World}(h:w.grownBy w' none):Gr w w':=⟨h.os,h.tape,h.output,h.size,fun k a=>h.block k a (by simp)⟩
def bl(s:ByteArray):List UInt8:=s.data.toList
def bN(s:ByteArray):(bl s).length=s.size:=(Lib.size_eq s).symm
def hI(s:ByteArray):s.toList=bl s:=Lib.toList_data s
def tG{s t:ByteArray}(h:bl s=bl t):s=t:=by
 cases s;cases t;simp only[bl]at h;congr 1;exact Array.toList_inj.1 h
def eJ{k:IntKind}{a b:Int}(h:a=b):Ending.returned (.int k a)=.returned (.int k b):=by rw[h]
def eU{a b:Bool}(h:a=b):Ending.returned (.bool a)=.returned (.bool b):=by rw[h]
def rowAt(w:World)(a:Addr)(n:Nat):List Value:=(List.range n).map fun i=>(w.cell? (a.add i)).getD undef
def hasRow(w:World)(a:Addr)(n:Nat):Bool:=(List.range n).all fun i=>(w.cell? (a.add i)).isSome
def gz(w:World)(a:Addr)(n:Nat):Bool:=(List.range n).all fun i=>!w.frozen? (a.add i)
def dD(cs:List Value)(k n:Nat):List Value:=(cs.drop k).take n
def kr{w:World}{a:Addr}{n:Nat}:hasRow w a n=true↔∀i,i<n->(w.cell? (a.add i)).isSome=true:=by
 simp[hasRow,List.all_eq_true]
def tJ{w:World}{a:Addr}{n:Nat}:gz w a n=true↔∀i,i<n->w.frozen? (a.add i)=false:=by
 simp[gz,List.all_eq_true]
def sZ(a:Addr)(n:Nat):(a.add n).block=a.block:=by unfold Addr.add;split<;>rfl
def yD{w w':World}{a:Addr}{n:Nat}(h:∀i,i<n->w'.cell? (a.add i)=w.cell? (a.add i)):rowAt w' a n=rowAt w a n:=by
 unfold rowAt;apply List.map_congr_left;intro i hi;rw[h i (by simpa using hi)]
def xM{w w':World}{a:Addr}{n:Nat}(h:∀i,i<n->w'.cell? (a.add i)=w.cell? (a.add i)):hasRow w' a n=hasRow w a n:=by
 rw[Bool.eq_iff_iff,kr,kr];constructor
 .intro g i hi;rw[<-h i hi];exact g i hi
 .intro g i hi;rw[h i hi];exact g i hi
def RP{w w':World}{a:Addr}{n:Nat}(h:∀i,i<n->w'.frozen? (a.add i)=w.frozen? (a.add i)):gz w' a n=gz w a n:=by
 rw[Bool.eq_iff_iff,tJ,tJ];constructor
 .intro g i hi;rw[<-h i hi];exact g i hi
 .intro g i hi;rw[h i hi];exact g i hi
def Zj(w:World)(o:Obj)(b k n:Nat)(h:b<w.heap.size):rowAt (w.alloc o) ⟨b,k,none⟩ n=rowAt w ⟨b,k,none⟩ n:=
 yD fun i _=>World.cell?_alloc_lt w o _ (by rw[sZ];exact h)
def On(w:World)(o:Obj)(b k n:Nat)(h:b<w.heap.size):hasRow (w.alloc o) ⟨b,k,none⟩ n=hasRow w ⟨b,k,none⟩ n:=
 xM fun i _=>World.cell?_alloc_lt w o _ (by rw[sZ];exact h)
def Sk(w:World)(o:Obj)(b k n:Nat)(h:b<w.heap.size):gz (w.alloc o) ⟨b,k,none⟩ n=gz w ⟨b,k,none⟩ n:=
 RP fun i _=>World.frozen?_alloc_old w o _ (by rw[sZ];exact Nat.ne_of_lt h)
def abm(w:World)(a:Addr)(n:Nat):rowAt w.drew a n=rowAt w a n:=rfl
def UW(w:World)(a:Addr)(n:Nat):hasRow w.drew a n=hasRow w a n:=rfl
def aap(w:World)(a:Addr)(n:Nat):gz w.drew a n=gz w a n:=rfl
def Tf(w:World)(m:Nat)(a:Addr)(n:Nat):rowAt (w.drewN m) a n=rowAt w a n:=yD fun _ _=>World.cell?_drewN ..
def adA(w:World)(m:Nat)(a:Addr)(n:Nat):hasRow (w.drewN m) a n=hasRow w a n:=xM fun _ _=>World.cell?_drewN ..
def bH{w:World}{b:Nat}{cs:List Value}{t:TypeId}{fr:Nat×Nat}(h:w.heap[b]? =some (.cells cs.toArray t fr)) (k:Nat):w.cell? ⟨b,k,none⟩=cs[k]? :=by
 simp[World.cell?,h]
def bJ{w:World}{b:Nat}{cs:List Value}{t:TypeId}{fr:Nat×Nat}(h:w.heap[b]? =some (.cells cs.toArray t fr)) (k n:Nat) (a:k+n<=cs.length):rowAt w ⟨b,k,none⟩ n=dD cs k n:=by
 apply List.ext_getElem?;intro i;simp only[rowAt,dD,List.getElem?_map,List.getElem?_take,List.getElem?_drop];by_cases hi:i<n
 .rw[if_pos hi,List.getElem?_range hi,Option.map_some,Addr.add_lit,bH h,List.getElem?_eq_getElem (by omega)];rfl
 .rw[if_neg hi,List.getElem?_eq_none (by simp;omega)];rfl
def aP{w:World}{b:Nat}{cs:List Value}{t:TypeId}{fr:Nat×Nat}(h:w.heap[b]? =some (.cells cs.toArray t fr)) (k n:Nat) (a:k+n<=cs.length):hasRow w ⟨b,k,none⟩ n=true:=by
 rw[kr];intro i hi;rw[Addr.add_lit,bH h,List.getElem?_eq_getElem (by omega)];rfl
def bE{w:World}{b:Nat}{cs:List Value}{t:TypeId}(h:w.heap[b]? =some (.cells cs.toArray t (0,0))) (k n:Nat):gz w ⟨b,k,none⟩ n=true:=by
 rw[tJ];intro i hi;rw[Addr.add_lit];simp[World.frozen?,h]
def aY(w:World)(o:Obj)(b:Nat)(h:b=w.heap.size):(w.alloc o).heap[b]? =some o:=by subst h;exact heap_alloc_new w o
def XW(w:World)(cs:List Value)(t:TypeId)(b k n:Nat)(h:b=w.heap.size)(a:k+n<=cs.length):rowAt (w.alloc (.cells cs.toArray t)) ⟨b,k,none⟩ n=dD cs k n:=bJ (aY w _ b h) k n a
def UG(w:World)(cs:List Value)(t:TypeId)(b k n:Nat)(h:b=w.heap.size)(a:k+n<=cs.length):hasRow (w.alloc (.cells cs.toArray t)) ⟨b,k,none⟩ n=true:=aP (aY w _ b h) k n a
def WR(w:World)(cs:List Value)(t:TypeId)(b k n:Nat)(h:b=w.heap.size):gz (w.alloc (.cells cs.toArray t)) ⟨b,k,none⟩ n=true:=bE (aY w _ b h) k n
def Gr.rowAt{w w':World}(h:Gr w w'){b k n:Nat}(a:b<w.heap.size):rowAt w' ⟨b,k,none⟩ n=rowAt w ⟨b,k,none⟩ n:=yD fun i _=>h.cell (by rw[sZ];exact a)
def Gr.hasRow{w w':World}(h:Gr w w'){b k n:Nat}(a:b<w.heap.size):hasRow w' ⟨b,k,none⟩ n=hasRow w ⟨b,k,none⟩ n:=xM fun i _=>h.cell (by rw[sZ];exact a)
def dZ(P:Program)(t:TypeId):Bool:=match P.underlying t with|some (.struct _)=>true|some (.array _ _)=>true|_=>false
def Gd{P:Program}{t:TypeId}(h:dZ P t=true)(w:World):(isAgg t).run P w=.ok true w:=by
 unfold dZ at h;split at h
 .rename_i a;simp[isAgg,run_underlying a]
 .rename_i a;simp[isAgg,run_underlying a]
 .cases h
def Fu{P:Program}{t:TypeId}(h:dZ P t=true)(w:World):(Go.sizeOf t).run P w=.ok (P.cellsOf t) w:=by
 have hi:∃i,P.info? t=some i:=by
  unfold dZ at h;split at h
  .rename_i a;exact info_of_underlying a
  .rename_i a;exact info_of_underlying a
  .cases h
 obtain⟨i,hi⟩:=hi;simp[Go.sizeOf,typeInfo,Program.cellsOf,hi]
def SW{P:Program}{t:TypeId}(h:dZ P t=true){w:World}{a:Addr}(d:hasRow w a (P.cellsOf t)=true):(loadVar t a).run P w=.ok (.agg (rowAt w a (P.cellsOf t)).toArray) w:=by
 have c:(loadCells a (P.cellsOf t)).run P w=.ok (rowAt w a (P.cellsOf t)).toArray w:=by
  rw[run_loadCells w a _ (fun i=>(w.cell? (a.add i)).getD undef) (fun j b=>by
   obtain⟨v,e⟩:=Option.isSome_iff_exists.1 (kr.1 d j b);rw[e];rfl)]
  rfl
 simp[loadVar,Sem.run_bind,Gd h,Fu h,c]
def xb(P:Program)(t:TypeId)(v:Value)(w:World):Result Next:=(do pure (Next.value (<-Instr.loadAt t v)):Sem Next).run P w
def adf{P:Program}{t:TypeId}(e:dZ P t=true)(a:Operand->Value)(d:Option Tmp)(x:Operand)(c:TypeId)(p:String)(b:Array Edge)(g:Option (Nat×Bool))(w:World):
  Sem.run P (execOp a ⟨d,.load t x,c,p,b,g⟩) w=xb P t (a x) w:=rfl
def PC{P:Program}{t:TypeId}(h:dZ P t=true){w:World}{a:Addr}(b:hasRow w a (P.cellsOf t)=true):xb P t (.pointer (some a)) w=.ok (.value (.agg (rowAt w a (P.cellsOf t)).toArray)) w:=by
 simp[xb,Instr.loadAt,Instr.sureAddr,SW h b]
def PH(P:Program)(t:TypeId)(a:Addr)(w:World):Result Next:=xb P t (.pointer (some a)) w
def adE{P:Program}{t:TypeId}(h:dZ P t=true)(w:World)(a:Addr):xb P t (.pointer (some a)) w=if hasRow w a (P.cellsOf t)=true then .ok (.value (.agg (rowAt w a (P.cellsOf t)).toArray)) w else PH P t a w:=by
 split
 .exact PC h ‹_›
 .rfl
def cN(cs:List Value):Bool:=cs.all fun v=>v.oneCell'
def xc(P:Program)(t:TypeId)(v x:Value)(w:World):Result Next:=(do Instr.storeAt t v x;pure Next.skip:Sem Next).run P w
def aaR{P:Program}{t:TypeId}(e:dZ P t=true)(a:Operand->Value)(d:Option Tmp)(x y:Operand)(c:TypeId)(p:String)(b:Array Edge)(g:Option (Nat×Bool))(w:World):
  Sem.run P (execOp a ⟨d,.store t x y,c,p,b,g⟩) w=xc P t (a x) (a y) w:=rfl
def VQ{P:Program}{t:TypeId}(h:dZ P t=true){w:World}{b k:Nat}{cs:List Value}(g:cs.length=P.cellsOf t)(i:hasRow w ⟨b,k,none⟩ cs.length=true)(f:gz w ⟨b,k,none⟩ cs.length=true)(e:cN cs=true):
  xc P t (.pointer (some ⟨b,k,none⟩)) (.agg cs.toArray) w=.ok .skip (w.setCells b k cs):=by
 have d:=run_storeCells_cells (P:=P) b k cs 0 w (fun c a=>by have:=kr.1 i c a;rw[Addr.add_lit]at this;simpa using this) (fun c a=>by have:=tJ.1 f c a;rw[Addr.add_lit]at this;simpa using this) (fun v j=>by simpa using List.all_eq_true.1 e v j);rw[Nat.add_zero]at d;simp[xc,Instr.storeAt,Instr.sureAddr,storeVar,Value.cells,Sem.run_bind,Fu h,g,d]
def Vo(P:Program)(t:TypeId)(b k:Nat)(cs:List Value)(w:World):Result Next:=xc P t (.pointer (some ⟨b,k,none⟩)) (.agg cs.toArray) w
def Sd{P:Program}{t:TypeId}(h:dZ P t=true)(w:World)(b k:Nat)(cs:List Value):xc P t (.pointer (some ⟨b,k,none⟩)) (.agg cs.toArray) w=
  if cs.length=P.cellsOf t/\hasRow w ⟨b,k,none⟩ cs.length=true/\gz w ⟨b,k,none⟩ cs.length=true/\cN cs=true then .ok .skip (w.setCells b k cs)else Vo P t b k cs w:=by
 split
 .rename_i g;exact VQ h g.1 g.2.1 g.2.2.1 g.2.2.2
 .rfl
def St(w:World)(t:TypeId)(b:Nat)(z cs:List Value)(f:b=w.heap.size)(g:cs.length=z.length):(w.alloc (.cells z.toArray t)).setCells b 0 cs=w.alloc (.cells cs.toArray t):=by
 have d:∀(l a post:List Value),post.length=l.length->(w.alloc (.cells (a++post).toArray t)).setCells b a.length l=w.alloc (.cells (a++l).toArray t):=by
  intro l
  induction l with
  |nil=>intro a post h;obtain rfl:post=[]:=List.length_eq_zero_iff.1 h;rfl
  |cons v l i=>
   intro a post h;obtain⟨p,c,rfl⟩:∃p q,post=p::q:=by cases post with|nil=>simp at h|cons p q=>exact⟨p,q,rfl⟩
   show(World.setCells ((w.alloc _).setCell ⟨b,a.length,none⟩ v) b (a.length+1) l)=_;rw[World.setCell_alloc_at _ _ _ _ _ f];have e:(a++p::c).toArray.setIfInBounds a.length v=((a++[v])++c).toArray:=by simp
   rw[e];have:=i (a++[v]) c (by simpa using h);simp only[List.length_append,List.length_cons,List.length_nil,Nat.zero_add,List.append_assoc,List.cons_append,List.nil_append]at this|-
   exact this
 simpa using d cs [] z g.symm
def bC{n:Nat}(x:Vector UInt8 n):List Value:=x.toList.map fun b=>.int .u8 (b.toNat:Int)
def a_{n:Nat}(x:Vector UInt8 n):(bC x).length=n:=by simp[bC]
def F_{n:Nat}{x y:Vector UInt8 n}(h:bC x=bC y):x=y:=by
 apply Vector.toList_inj.1;unfold bC at h;exact List.map_inj_right (fun a b c=>by simp at c;exact UInt8.toNat_inj.1 (by omega)) |>.1 h
def uq{n:Nat}(x:Vector UInt8 n):cN (bC x)=true:=by
 simp only[cN,bC,List.all_map,List.all_eq_true];intro b _;rfl
def iI(a b:List Value):cN (a++b)=(cN a&&cN b):=by simp[cN]
def xg(a:Value)(b:List Value):cN (a::b)=(a.oneCell'&&cN b):=by simp[cN]
def Yo:cN []=true:=rfl
def ex{α:Sort _}(a:α):∃x,a=x:=⟨a,rfl⟩
def hd{P:Prop}(h:P):Hid P:=h
def nn(k:Nat):(0:Int)<=(k:Int):=Int.natCast_nonneg k
def gO{w:World}{n:Nat}(hn:w.heap.size=n)(o:Obj):∃U,w.alloc o=U/\Hid (Gr w U)/\Hid (U.heap[n]? =some o):=
 ⟨_,rfl,(Gr.refl w).alloc _,aY _ _ _ hn.symm⟩
def gT{w:World}{n:Nat}(hn:w.heap.size=n)(o p:Obj):∃U,(w.alloc o).alloc p=U/\Hid (Gr w U)/\Hid (U.heap[n]? =some o)/\Hid (U.heap[n+1]? =some p):=
 ⟨_,rfl,((Gr.refl w).alloc _).alloc _,(((Gr.refl _).alloc _).block (by simp;omega)).trans (aY _ _ _ hn.symm),aY _ _ _ (by simp;omega)⟩
def jP{w:World}{n:Nat}(hn:w.heap.size=n)(o p q:Obj):∃U,((w.alloc o).alloc p).alloc q=U/\Hid (Gr w U)/\Hid (U.heap[n]? =some o)/\Hid (U.heap[n+1]? =some p)/\Hid (U.heap[n+1+1]? =some q):=by
 obtain⟨U,rfl,g,h,k⟩:=gT hn o p;exact⟨_,rfl,Gr.alloc g _,(((Gr.refl _).alloc _).block (by simp;omega)).trans h,(((Gr.refl _).alloc _).block (by simp;omega)).trans k,aY _ _ _ (by simp;omega)⟩
def CZ{w:World}{n:Nat}(hn:w.heap.size=n)(o p q r:Obj):∃U,(((w.alloc o).alloc p).alloc q).alloc r=U/\Hid (Gr w U)/\Hid (U.heap[n]? =some o)/\Hid (U.heap[n+1]? =some p)/\Hid (U.heap[n+1+1]? =some q)/\Hid (U.heap[n+1+1+1]? =some r):=by
 obtain⟨U,rfl,g,h,k,l⟩:=jP hn o p q;exact⟨_,rfl,Gr.alloc g _,(((Gr.refl _).alloc _).block (by simp;omega)).trans h,(((Gr.refl _).alloc _).block (by simp;omega)).trans k,(((Gr.refl _).alloc _).block (by simp;omega)).trans l,aY _ _ _ (by simp;omega)⟩
def Wp{c:Prop}[Decidable c]{α:Type}{a b R:α}(h:(if c then a else b)=R):(c/\a=R)\/(¬c/\b=R):=by
 by_cases q:c
 .rw[if_pos q]at h;exact .inl ⟨q,h⟩
 .rw[if_neg q]at h;exact .inr ⟨q,h⟩
abbrev RG(W:World)(v:Value)(e:Ending)(c:World):Prop:=e=.returned v/\Gr W c
abbrev CG(f:FuncId)(a:Array Value)(w:World)(v:Value):Prop:=Calls prog f a w (RG w v)
abbrev HB(W:World)(n:Nat)(L:List Value)(t:TypeId):Prop:=W.heap[n]? =some (.cells L.toArray t)
abbrev bP:=List ByteArray
abbrev aM:=List UInt8
abbrev bF:=List Value
abbrev dB:=Option Addr
abbrev aJ:=ByteArray
abbrev aB:=World
def aH{p:Prop}[Decidable p](h:decide p=true):p:=of_decide_eq_true h
abbrev aC(L:List Value)(t:TypeId):Obj:=.cells L.toArray t
abbrev aE(L:List Value):Value:=.agg L.toArray
abbrev aR(b o n c:Nat):Value:=.slice (some ⟨b,o,none⟩) n c
abbrev bZ(b:Nat):Value:=.pointer (some ⟨b,0,none⟩)
abbrev aD(b o:Nat):Addr:=⟨b,o,none⟩
def bA{P:Program}{f:FuncId}{a:Array Value}{w:World}{v:Value}{S:World->Prop}{R:Ending->World->Prop}(h:Calls P f a w fun e c=>e=.returned v/\S c)(k:∀c,S c->R (.returned v) c):Calls P f a w R:=h.mono (by rintro e c ⟨rfl,s⟩;exact k c s)
def dK{P:Program}{f:FuncId}{a:Array Value}{w:World}{v:Value}{R:Ending->World->Prop}(h:Calls P f a w fun e c=>e=.returned v/\w=c)(k:R (.returned v) w):Calls P f a w R:=h.mono (by rintro e c ⟨rfl,rfl⟩;exact k)
set_option linter.defProp false
def aA:=@Lib.hid
def fx:=@List.setIfInBounds_toArray
def bY:=@Array.getElem?_eq_some_iff
def aF:=@if_neg
def aG:=@if_pos
def aU:=@Nat.le_refl
def bV:=@List.length_append
def eZ:=@List.set_cons_zero
def fj:=@List.set_cons_succ
def bQ:=@List.size_toArray
def cO:=@List.getElem?_eq_getElem
def bI:=@bodyPost_ret
def cG:=@heap_setCell_other
def eF:=@List.take_succ_eq_append_getElem
def dI:=@beq_eq_false_iff_ne
def cM:=@heap_alloc_new
def cL:=@List.length_map
def bW:=@Nat.zero_le
def cV:=@IntKind.wrap_i64
def eD:=@List.getD_eq_getElem?_getD
def dQ:=@Nat.lt_of_lt_of_le
def eq:=@List.take_of_length_le
def dN:=@List.length_cons
def dP:=@List.length_take
def fl:=@List.append_assoc
def cX:=@wpQuiet_nil
def dY:=@results_cell_row
def fQ:=@List.length_eq_zero_iff
def eh:=@List.length_drop
def eX:=@List.getElem_cons_zero
def fa:=@List.getElem_cons_succ
def fi:=@List.getElem_toArray
def ib:=@List.drop_succ_cons
def oa:=@wpAnyH_take
def gR:=@List.take_succ_cons
def jN:=@List.length_singleton
def gY:=@List.all_eq_true
def fH:=@Bool.and_eq_true
def fA:=@World.ownsRow.lt
def fC:=@heap_setCell_same
def eL:=@decide_eq_false
def fo:=@List.getElem?_map
def eu:=@Nat.le_trans
def gg:=@IntKind.wrap_u8
def fm:=@decide_eq_true
def fy:=@List.take_zero
def gt:=@List.map_cons
def gd:=@List.drop_zero
def jn:=@List.drop_of_length_le
def iK:=@decide_eq_true_eq
def ka:=@World.block_lt_of_cell?
def ig:=@List.getElem_map
def gD:=@List.map_append
def ou:=@decide_eq_false_iff_not
def lS:=@rounds_succ
def je:=@List.append_nil
def fO:=@Addr.add_lit
def kR:=@List.drop_eq_getElem_cons
def qi:=@Decidable.byContradiction
def fB:=@Nat.zero_add
def ei:=@congrArg
def iP:=@Option.some.inj
def iJ:=@List.length_nil
def kZ:=@List.getElem?_eq_none
def lq:=@List.take_append_drop
def nO:=@Lib.join_one
def iQ:=@List.mem_map
def mf:=@List.mem_append
def jS:=@List.take_length
def nG:=@List.getElem?_eq_some_iff
def kM:=@List.getElem?_drop
def jm:=@Option.map_some
def kA:=@List.getElem_mem
def pu:=@List.set_append_right
def ni:=@ByteArray.size_append
def kE:=@Bool.eq_iff_iff
def mB:=@List.cons_append
def eV:=@trivial
def oY:=@List.length_replicate
def mD:=@List.any_eq_true
def oS:=@List.getElem?_append_left
def mZ:=@List.nil_append
def mi:=@List.getElem?_take
def lZ:=@Nat.not_lt_zero
def qG:=@Or.inl
def nR:=@Nat.pow_le_pow_right
def lh:=@heap_alloc2_new
def lP:=@UInt8.toNat_inj
def pc:=@List.mem_cons
def lQ:=@run_underlying
def m_:=@Int.toNat_natCast
def mM:=@World.ownsRow.kept
def sN:=@List.mem_singleton
def o4:=@Option.map_eq_some_iff
def oU:=@Vector.length_toList
def qB:=@Vector.getElem?_eq_getElem
def nZ:=@Result.andThen_ok
def p9:=@UInt8.toNat_ofNat'
def pD:=@List.getElem_of_mem
def l8:=@Nat.add_assoc
def nj:=@Option.getD_some
def oG:=@of_decide_eq_true
def ml:=@List.foldl_cons
def n_:=@List.flatMap_cons
def sS:=@wp_loop_rounds
def rR:=@List.getElem?_append_right
def q9:=@UInt8.lt_iff_toNat_lt
def sH:=@List.drop_append_of_le_length
def nF:=@Nat.mod_eq_of_lt
def zJ:=@Bool.or_eq_true
def qz:=@Vector.getElem?_toList
def ms:=@Nat.add_zero
def nI:=@List.map_nil
def nm:=@List.all_cons
def nc:=@Sem.run_bind
def xR:=@List.map_congr_left
def qf:=@List.getElem?_range
def pG:=@List.flatMap_append
def mw:=@List.foldl_nil
def nD:=@List.drop_drop
def km:=@And.intro
def us:=@List.take_append_of_le_length
def tp:=@List.isEmpty_eq_false_iff
def tm:=@of_decide_eq_false
def pg:=@heap_alloc2_old
def o_:=@UInt32.toNat_xor
def pi:=@UInt32.toNat_add
def rG:=@IntWalk.i64_left
def ld:=@Nat.mul_one
def ma:=@Below.block
def lu:=@beq_iff_eq
def uI:=@List.eq_nil_or_concat
def wt:=@List.concat_eq_append
def nJ:=@callsIn_wide
def tE:=@List.replicate_succ'
def uZ:=@Int.tdiv_eq_ediv_of_nonneg
def lV:=@enters_of
def r':=@List.takeWhile_cons
def rd:=@List.length_pos_iff
def AW:=@wpAnyH_done
def qE:=@Option.some.injEq
def rD:=@List.ext_getElem?
def yV:=@List.singleton_append
def xG:=@Option.isSome_iff_exists
def tN:=@Nat.le_of_eq
def vg:=@World.cell?_of_block
def ul:=@List.mem_cons_of_mem
def pz:=@Nat.le_of_lt
def pl:=@Nat.add_comm
def vb:=@MapKept.run_getObj_map
def pS:=@List.mem_range
def Bj:=@Int.tmod_eq_emod_of_nonneg
def rW:=@List.all_append
def tv:=@Array.getElem?_toList
def xS:=@decide_eq_decide
def ye:=@IntKind.wrap_u64
def pm:=@Nat.mul_comm
def pW:=@Bool.and_true
def vQ:=@Below.trans
def wZ:=@Array.replicate_zero
def xy:=@Array.replicate_succ
def L':=@yieldsIf_load_mid
def ta:=@List.foldl_append
def vI:=@List.any_eq_false
def yK:=@List.append_toArray
def vP:=@UInt32.toNat_shiftLeft
def oW:=@cell_of_row
def sk:=@Nat.div_eq_of_lt
def vq:=@Array.getElem?_append
def yI:=@List.extract_eq_take_drop
def sA:=@Sem.run_pure
def qe:=@Nat.pow_succ
def xj:=@List.push_toArray
def BI:=@List.map_map
def qM:=@Code.wp_mono
def rk:=@Prod.mk.injEq
def vJ:=@MapKept.run_findKey
def xB:=@UInt32.toNat_shiftRight
def xt:=@List.getElem?_cons_succ
def tt:=@List.drop_length
def sD:=@DataW.held.inj
def BG:=@ChangeMaps.heap_setBlock_other
def rx:=@Nat.zero_mul
def qR:=@Nat.sub_self
def xh:=@Nat.lt_of_le_of_lt
def Dv:=@Nat.eq_zero_or_pos
def xI:=@ByteArray.data_extract
def x_:=@Array.getElem?_eq_none
def tS:=@Nat.min_eq_left
def wy:=@List.any_append
def ui:=@Bool.eq_false_iff
def qp:=@bne_iff_ne
def yp:=@MapKept.run_checkKey
def xK:=@Bool.or_eq_false_iff
def yA:=@Array.toList_extract
def v7:=@UInt32.toNat_and
def sR:=@Nat.lt_trans
def xF:=@List.not_mem_nil
def wi:=@List.filter_cons
def rP:=@List.all_nil
def wN:=@List.toList_toArray
def Ai:=@List.flatten_append
def uM:=@run_loadVar_row
def wI:=@List.range_succ
def Gf:=@List.headD_cons
def qS:=@Nat.mod_lt
def yy:=@Nat.add_sub_cancel
def xN:=@List.mem_cons_self
def tI:=@Below.refl
def yv:=@Below.heap_setCell
def xH:=@Array.ext_getElem?
def sK:=@Nat.le_succ
def Fx:=@wpList_append_own
def xT:=@results_none
def th:=@Nat.lt_or_ge
def tX:=@List.map_set
def xe:=@List.getElem_drop
def yw:=@List.flatten_cons
def v6:=@List.all_map
def uY:=@DataW.trod_int
def Ac:=@List.length_filter_le
def zt:=@Bool.and_eq_false_iff
def yC:=@World.size_alloc
def sB:=@Vector.ext
def xO:=@Nat.lt_succ_self
def F':=@Nat.and_two_pow_sub_one_eq_mod
def Nm:=@Array.eq_empty_of_size_eq_zero
def vB:=@Bool.true_and
def zz:=@getD_replicate_false
def AQ:=@Nat.mul_le_mul_right
def Jd:=@Nat.exists_eq_succ_of_ne_zero
def LI:=@List.getLast?_concat
def E4:=@ChangeMaps.heap_setBlock_same
def Ae:=@Array.getElem?_push
def wK:=@Nat.succ_mul
def FE:=@Nat.mul_lt_mul_of_pos_right
def vr:=@Below.output
def Dh:=@Nat.mod_two_eq_zero_or_one
def Ah:=@List.ne_nil_of_mem
def Af:=@List.filter_append
def EP:=@World.cell?_setCell_same'
def ED:=@Array.getElem?_eq_getElem
def Sl:=@Vector.toList_inj
def wg:=@Nat.sub_sub
def Bm:=@Lib.tabIs_of_head
def Bx:=@IntKind.wrap_u32'
def FX:=@Bool.not_eq_true'
def xr:=@Nat.mul_assoc
def yq:=@List.sum_cons
def AB:=@run_index_string
def tw:=@mem_ready
def Bt:=@Nat.shiftLeft_eq
def zj:=@Nat.lt_of_not_le
def Eu:=@Nat.add_sub_cancel_left
def zI:=@List.flatMap_def
def FJ:=@List.ext_getElem
def Mt:=@Lib.cell_of_heap
def CK:=@run_convert_bytes_back
def vY:=@ready_mono
def Az:=@info_parts
def Lj:=@World.setCell_alloc_at
def aeR:=@Below.tape
def BM:=@Below.size
def yY:=@Oper.upon_value
def y7:=@Nat.two_pow_pos
def zZ:=@Nat.mul_add_div
def zv:=@List.mem_filter
def Dy:=@List.find?_some
def za:=@List.cons.injEq
def Ni:=@World.cell?_alloc_new
def aaI:=@Lib.run_eql_slice_nil
def zk:=@World.mk.injEq
def Fk:=@UInt8.toNat_toUInt32
def wQ:=@Nat.pow_pos
def Kc:=@List.tail_cons
def BW:=@List.drop_take
def DS:=@bne_eq_false_iff_eq
def El:=@Vector.getElem_ofFn
def Fc:=@List.replicate_succ
def Da:=@List.mem_map_of_mem
def zH:=@Bool.and_self
def adC:=@info_of_underlying
def Cw:=@World.ownsMap_made
def Ei:=@Vector.getElem_set
def F7:=@Int.natCast_nonneg
def vC:=@if_true
def FC:=@World.ownsRow_nil
def Li:=@World.drewN_drewN
def td:=@Ne.symm
def DL:=@List.getElem_take
def vE:=@Below.os
def C':=@List.toArray_inj
def TI:=@List.flatMap_map
def A':=@grownCap_ge
def Cd:=@Nat.pow_add
def Be:=@Nat.add_mul
def JS:=@World.size_drew
def CW:=@UInt32.toNat_or
def aai:=@Nat.min_le_left
def Mq:=@Nat.div_le_self
def Io:=@Array.getElem?_setIfInBounds
def xd:=@and_true
def FK:=@List.range_one
def IZ:=@List.getElem_concat_length
def ZO:=@List.drop_left
section
section
variable {P:Program}
theorem IA(w:aB)(d:Nat){e:TypeId}(a:P.underlying e=some (.int .u8)){n:Nat}(x y:Vector UInt8 n):∀(is:List Nat),(∀i∈is,i<n)->
  (Op.eqItems (d+1) e 1 (bC x).toArray (bC y).toArray is).run P w=.ok (is.all fun i=>x.toList[i]? ==y.toList[i]?) w
 |[],_=>by simp[Op.eqItems]
 |i::is,h=>by
  have hi:i<n:=h i (by simp);have k:=IA w d a x y is (fun j f=>h j (by simp[f]));have g:∀z:Vector UInt8 n,(part e (bC z).toArray (i*1)).run P w=.ok (.int .u8 (z[i].toNat:Int)) w:=by
   intro z;have c:(bC z).toArray[i]? =some (.int .u8 (z[i].toNat:Int)):=by simp[bC,hi]
   simp[part,isAgg,lQ a,c]
  simp only[Op.eqItems,nc,g,nZ,run_equalIn_int w d e .u8 .u8 _ _ a];have b:(x.toList[i]? ==y.toList[i]?)=(((x[i].toNat:Int))==(y[i].toNat:Int)):=by
   rw[kE];simp only[lu,qz,qB hi,qE];exact⟨fun h=>by rw[h],fun h=>lP.1 (by omega)⟩
  rw[nm,b]
  cases hb:((x[i].toNat:Int)==(y[i].toNat:Int))
  .simp
  .simpa using k
theorem Z6{n:Nat}(x y:Vector UInt8 n):((List.range n).all fun i=>x.toList[i]? ==y.toList[i]?)=(x==y):=by
 rw[kE];simp only[gY,pS,lu];constructor
 .intro h
  apply sB;intro i hi;have:=h i hi;simpa[qz,qB hi]using this
 .intro h i _;rw[h]
theorem tr(w:aB)(d:Nat){t e:TypeId}{n:Nat}(c:P.underlying t=some (.array n e))(a:P.underlying e=some (.int .u8))(b:P.cellsOf e=1)(x y:Vector UInt8 n):
  (Op.equalIn (d+2) t (aE (bC x)) (aE (bC y))).run P w=.ok (x==y) w:=by
 obtain⟨i,hi⟩:=adC a;rw[run_equalIn_array w (d+1) _ _ c hi,b,IA w d a x y _ (fun i hi=>by simpa using hi),Z6]
theorem YQ{t e:TypeId}{n:Nat}(c:P.underlying t=some (.array n e))(b:P.underlying e=some (.int .u8))(a:P.cellsOf e=1)(x y:Vector UInt8 n)(w:aB):
  Sem.run P (binOp .neq t (aE (bC x)) (aE (bC y))) w=.ok (.bool (!(x==y))) w:=by
 rw[run_neq_struct,tr w 9998 c b a];rfl
end
abbrev Id:=Vector UInt8 32
abbrev cE:=Vector UInt8 16
structure FW where
 id:Id
 author:cE
 date:Int
 target:Id
structure Rw where
 id:Id
 author:cE
 date:Int
 groups:Value
 refs:Value
 sup:Id
structure Cl where
 id:Id
 author:cE
 group:ByteArray
 version:Int
 removed:Bool
 moderated:Bool
 mods:Value
 text:ByteArray
def mL(y:FW):bF:=bC y.id++(bC y.author++(.int .i64 y.date::bC y.target))
def jZ(x:Rw):bF:=bC x.id++(bC x.author++(.int .i64 x.date::x.groups::x.refs::bC x.sup))
def iF(d:Cl):bF:=bC d.id++(bC d.author++[.string d.group,.int .i64 d.version,.bool d.removed,.bool d.moderated,d.mods,.string d.text])
theorem LV(y:FW):(mL y).length=81:=by simp[mL,a_]
theorem MP(x:Rw):(jZ x).length=83:=by simp[jZ,a_]
theorem Nn(d:Cl):(iF d).length=54:=by simp[iF,a_]
theorem gP(a b:bF)(n:Nat)(h:a.length=n):dD (a++b) 0 n=a:=by
 unfold dD;rw[gd,us (by omega),eq (by omega)]
theorem eQ(a b:bF)(k n m:Nat)(h:a.length=m)(c:m<=k):dD (a++b) k n=dD b (k-m) n:=by
 unfold dD;rw[List.drop_append,jn (by omega),mZ,h]
theorem mr(a:Value)(b:bF)(k n:Nat)(c:0<k):dD (a::b) k n=dD b (k-1) n:=by
 unfold dD;obtain⟨j,rfl⟩:=Jd (Nat.ne_of_gt c);rfl
theorem b_(a:bF)(n:Nat)(h:a.length=n):dD a 0 n=a:=by
 unfold dD;rw[gd,eq (by omega)]
theorem eY(a b:bF)(k m:Nat)(h:a.length=m)(c:m<=k):(a++b)[k]? =b[k-m]? :=by
 rw[rR (by omega),h]
theorem jM{l:bF}{k:Nat}{v:Value}(h:l[k]? =some v) (a:k<l.length):l[k]=v:=by rw[cO a]at h;exact iP h
section
variable (y:FW) (x:Rw) (d:Cl)
theorem abf:dD (mL y) 0 32=bC y.id:=gP _ _ _ (a_ _)
theorem XY:dD (mL y) 32 16=bC y.author:=by
 unfold mL;rw[eQ _ _ _ _ 32 (a_ _) (aH rfl),gP _ _ _ (a_ _)]
theorem Kx:(mL y)[48]? =some (.int .i64 y.date):=by
 unfold mL;rw[eY _ _ _ 32 (a_ _) (aH rfl),eY _ _ _ 16 (a_ _) (aH rfl)];rfl
theorem ac3:dD (mL y) 49 32=bC y.target:=by
 unfold mL;rw[eQ _ _ _ _ 32 (a_ _) (aH rfl),eQ _ _ _ _ 16 (a_ _) (aH rfl),mr _ _ _ _ (aH rfl),b_ _ _ (a_ _)]
theorem adK:dD (mL y) 0 81=mL y:=b_ _ _ (LV y)
theorem S':cN (mL y)=true:=by simp[mL,iI,xg,uq,Value.oneCell']
theorem aau:dD (jZ x) 0 32=bC x.id:=gP _ _ _ (a_ _)
theorem Pg:dD (jZ x) 32 16=bC x.author:=by
 unfold jZ;rw[eQ _ _ _ _ 32 (a_ _) (aH rfl),gP _ _ _ (a_ _)]
theorem Ip:(jZ x)[48]? =some (.int .i64 x.date):=by
 unfold jZ;rw[eY _ _ _ 32 (a_ _) (aH rfl),eY _ _ _ 16 (a_ _) (aH rfl)];rfl
theorem MB:(jZ x)[49]? =some x.groups:=by
 unfold jZ;rw[eY _ _ _ 32 (a_ _) (aH rfl),eY _ _ _ 16 (a_ _) (aH rfl)];rfl
theorem KE:(jZ x)[50]? =some x.refs:=by
 unfold jZ;rw[eY _ _ _ 32 (a_ _) (aH rfl),eY _ _ _ 16 (a_ _) (aH rfl)];rfl
theorem acE:dD (jZ x) 51 32=bC x.sup:=by
 unfold jZ;rw[eQ _ _ _ _ 32 (a_ _) (aH rfl),eQ _ _ _ _ 16 (a_ _) (aH rfl),mr _ _ _ _ (aH rfl),mr _ _ _ _ (aH rfl),mr _ _ _ _ (aH rfl),b_ _ _ (a_ _)]
theorem OX:dD (jZ x) 0 83=jZ x:=b_ _ _ (MP x)
theorem QK:dD (iF d) 0 32=bC d.id:=gP _ _ _ (a_ _)
theorem UH:dD (iF d) 32 16=bC d.author:=by
 unfold iF;rw[eQ _ _ _ _ 32 (a_ _) (aH rfl),gP _ _ _ (a_ _)]
theorem vs(k:Nat)(h:48<=k):(iF d)[k]? =[Value.string d.group,.int .i64 d.version,.bool d.removed,.bool d.moderated,d.mods,.string d.text][k-48]? :=by
 unfold iF;rw[eY _ _ _ 32 (a_ _) (by omega),eY _ _ _ 16 (a_ _) (by omega),wg]
theorem Jj:(iF d)[48]? =some (.string d.group):=vs d 48 (aH rfl)
theorem GZ:(iF d)[49]? =some (.int .i64 d.version):=vs d 49 (aH rfl)
theorem L8:(iF d)[50]? =some (.bool d.removed):=vs d 50 (aH rfl)
theorem KO:(iF d)[51]? =some (.bool d.moderated):=vs d 51 (aH rfl)
theorem M6:(iF d)[52]? =some d.mods:=vs d 52 (aH rfl)
theorem Jq:(iF d)[53]? =some (.string d.text):=vs d 53 (aH rfl)
theorem P3:dD (iF d) 0 54=iF d:=b_ _ _ (Nn d)
theorem acw(h:48<(mL y).length):(mL y)[48]=.int .i64 y.date:=jM (Kx y) h
theorem Pa(h:48<(jZ x).length):(jZ x)[48]=.int .i64 x.date:=jM (Ip x) h
theorem ad6(h:49<(jZ x).length):(jZ x)[49]=x.groups:=jM (MB x) h
theorem Zw(h:50<(jZ x).length):(jZ x)[50]=x.refs:=jM (KE x) h
theorem ad3(h:48<(iF d).length):(iF d)[48]=.string d.group:=jM (Jj d) h
theorem Qq(h:49<(iF d).length):(iF d)[49]=.int .i64 d.version:=jM (GZ d) h
theorem Y0(h:50<(iF d).length):(iF d)[50]=.bool d.removed:=jM (L8 d) h
theorem XI(h:51<(iF d).length):(iF d)[51]=.bool d.moderated:=jM (KO d) h
theorem Oa(h:52<(iF d).length):(iF d)[52]=d.mods:=jM (M6 d) h
theorem Rr(h:53<(iF d).length):(iF d)[53]=.string d.text:=jM (Jq d) h
end
end
@[go_sem] def ahH:dZ prog 26 =true:=by kernel_rfl
@[go_sem] def afa:dZ prog 42 =true:=by kernel_rfl
@[go_sem] def vu:prog.cellsOf 26 =32:=by kernel_rfl
@[go_sem] def agM:prog.cellsOf 42 =16:=by kernel_rfl
def cellsByte:prog.cellsOf 5 =1:=by kernel_rfl
@[go_sem] def Jy (x y:Id) (w:aB):Sem.run prog (Op.equalIn 10000 26 (aE (bC x)) (aE (bC y))) w=.ok (x==y) w:=tr w 9998 underlying26 underlying5 cellsByte x y
@[go_sem] def ahu (x y:cE) (w:aB):Sem.run prog (Op.equalIn 10000 42 (aE (bC x)) (aE (bC y))) w=.ok (x==y) w:=tr w 9998 underlying42 underlying5 cellsByte x y
@[go_sem] def agI:prog.eqGuardType prog.depth 26 =false:=by kernel_rfl
@[go_sem] def ahK:prog.eqGuardType prog.depth 42 =false:=by kernel_rfl
attribute [go_sem ↓] adf aaR
attribute [go_sem] adE Sd Zj On Sk XW UG WR abm UW aap Tf adA St
 LV MP Nn a_ abf XY Kx ac3 adK S' aau Pg Ip MB KE acE OX QK UH Jj GZ L8 KO M6 Jq P3
 uq b_ acw Pa ad6 Zw ad3 Qq Y0 XI Oa Rr
section
section
variable {P:Program} {ops:Array Oper} {md:Region.Mode} {C:World->Prop}
def Hd(P:Program)(md:Region.Mode)(b:Array Oper)(C:aB->Prop)(n:Nat)(L:Array Bool->Act->Prop):Nat->Array Bool->Act->Prop
 |0,l,a=>L l a
 |f+1,l,a=>Region.ready md b l≠[]/\∀i∈Region.ready md b l,i<n/\qOp P b C i (Hd P md b C n L f (l.setIfInBounds i true)) a
theorem Hd.any{n g:Nat}{L:Array Bool->Act->Prop}{Q:Exit->Act->aB->Prop}(k:∀l a w,C w->L l a->wpAny P md ops Q g l a w):
  ∀(f:Nat) (l:Array Bool) (a:Act) (w:aB),C w->Hd P md ops C n L f l a->wpAny P md ops Q (f+g) l a w:=by
 intro f
 induction f with
 |zero=>intro l a w b h;rw[fB];exact k l a w b h
 |succ f m=>
  intro l a w b h;rw[Nat.add_right_comm];exact⟨fun j=>absurd j h.1,fun i hi=>wpOp_of_qOp b (fun d w' c e=>m _ d w' c e) (h.2 i hi).2⟩
theorem Hd.first{n i:Nat}{oi:Oper}{v:Value}{L:Array Bool->Act->Prop}(hi:ops[i]? =some oi) (p:∀(j:Nat) (o:Oper) cs b,ops[j]? =some o->o.op≠.select cs b)
  (M:Region.sinkB md ops n=true) (J:Region.chainB md ops n=true) (K:n<ops.size) (z:i<n) (q:∀l a,L l a->∀j∈Region.ready md ops l,n<=j) (f:Nat):
  ∀(l:Array Bool) (a:Act),HeadInv md ops n l->
   (∀j u,ops[j]? =some u->j≠i->l.getD j true=false->(∀e∈u.after,Region.binds md e=true->e.on≠i)->oi.apart ops u=true)->
   i∈Region.ready md ops l->YieldsIn P ops C oi v a->Hd P md ops C n L f (l.setIfInBounds i true) (a.put oi.dst v)->Hd P md ops C n L (f+1) l a:=by
 induction f with
 |zero=>
  intro l a m _ t D H;have g:=(tw.1 t).1;refine⟨Ah t,fun j r=>?_⟩;have d:j<n:=zj fun h=>tail_waits M J K m _ i rfl z g j h r;by_cases e:j=i
  .exact⟨d,by rw[e];exact D.qOp hi H⟩
  .exact absurd (q _ _ H j (vY r e)) (by omega)
 |succ f S=>
  intro l a m c t D H;have g:=(tw.1 t).1;refine⟨Ah t,fun j r=>?_⟩;have d:j<n:=zj fun h=>tail_waits M J K m _ i rfl z g j h r;by_cases e:j=i
  .exact⟨d,by rw[e];exact D.qOp hi H⟩
  .obtain⟨A,u,s,y⟩:=tw.1 r
   have E:=c j u s e A fun x R O G=>by
    have:=y x R O;rw[G,getD_both g]at this
    cases this
   refine⟨d,qOp_mono (fun N I=>S (l.setIfInBounds j true) N (m.set r d) ?_ (vY t (td e)) I.1 ?_)
    (qOp_put s E (fun cs b=>p i oi cs b hi) (fun cs b=>p j u cs b s) D (H.2 j (vY r e)).2)⟩
   .intro k T Q F B hno
    refine c k T Q F ?_ hno;by_cases w:j=k
    .rw[<-w];exact A
    .rwa[getD_set_ne true w]at B
   .rw[Array.setIfInBounds_comm _ _ e];exact I.2
theorem Hd.lex{n g:Nat}{R:Act->Prop}(d:Region.noSelect ops=true)(y:Region.sinkB md ops n=true)(w:Region.chainB md ops n=true)(x:n<ops.size)(h:List Oper):
  ∀(k:Nat) (l:Array Bool) (a:Act),(∀j,j<h.length->h[j]? =ops[k+j]?)->k+h.length=n->HeadInv md ops n l->Region.lexHead md ops g h.length k l=true->wpQuiet P ops C R h a->
   Hd P md ops C n (fun s p=>Region.seqB md ops g n s=true/\R p) h.length l a:=by
 induction h with
 |nil=>
  intro k l a _ i _ b m;obtain rfl:k=n:=by simpa using i
  exact⟨b,m⟩
 |cons o h A=>
  intro k l a q i e b m;have f:ops[k]? =some o:=by simpa using(q 0 (by simp)).symm
  simp only[dN,Region.lexHead,fH]at b i;have r:k∈Region.ready md ops l:=by simpa using b.1.1
  have c:k<n:=by omega
  obtain⟨v,z,t⟩:=yieldsIn_of_qOp (K:=wpQuiet P ops C R h) (C:=C) (P:=P) f (by unfold qOp;simp only[f];exact m);refine Hd.first f (Region.noSelect_spec d) y w x c (fun s p u=>seqB_ready u.1) h.length l a e (Region.free_spec f b.1.2) r z (A (k+1) _ _ (fun j B=>?_) (by omega) (e.set r c) b.2 t);have:=q (j+1) (by simp;omega);simpa[l8,pl 1 j]using this
theorem jd{id:Nat}{Q:Exit->Act->aB->Prop}{a:Act}{w:aB}{l:List Oper}(n:Nat)(C:aB->Prop)(v:P.follows .mixedOrders=true)(p:Region.lexTailB .any l.toArray n=true)(r:C w.drew)
  (h:wpQuiet P l.toArray C (fun k=>∀w',C w'->wpList P l.toArray Q (l.drop n) k w') (l.take n) a):(Code.region id l.toArray true).wp P Q a w:=by
 simp only[Region.lexTailB,fH,iK]at p;obtain⟨⟨⟨⟨e,m⟩,x⟩,s⟩,d⟩:=p
 have b:(l.take n).length=n:=by
  have:n<l.length:=by simpa using m
  simp;omega
 have c:(l.drop n).length=l.toArray.size-n:=by simp
 have f:HeadInv .any l.toArray n (Array.replicate l.toArray.size false):=
  ⟨by simp,fun j A _ hl=>(by rw[zz]at hl;cases hl),fun t _ y=>getD_in (by simpa using y) (zz _ _)⟩
 have H:=Hd.lex (md:=.any) (g:=l.toArray.size-n) (C:=C) e x s m (l.take n) 0 _ a (fun j u=>by
  have:j<n:=by rwa[b]at u
  simp[this]) (by rw[b,fB]) f (by rw[b];exact d) h
 refine wp_region_any v ?_
 have i:=Hd.any (Q:=Q) (g:=l.toArray.size-n) (fun z k w' o q=>by
  have:=wpAny_of_seq (md:=.any) (Q':=Q) (l.drop n) n z k w' (fun j=>by simp[kM]) (by rw[c];exact q.1) (q.2 w' o);rwa[c]at this) _ _ _ w.drew r H
 rw[b,Nat.add_sub_of_le (pz m)]at i;exact i
end
end
def gj(w w':aB):Prop:=Gr w w'/\w.drawn<=w'.drawn
def gj.refl(w:aB):gj w w:=⟨Gr.refl w,aU _⟩
def gj.trans{a b c:aB}(h:gj a b)(k:gj b c):gj a c:=⟨h.1.trans k.1,eu h.2 k.2⟩
def gj.alloc{a w:aB}(h:gj a w)(o:Obj):gj a (w.alloc o):=⟨h.1.alloc o,h.2⟩
def gj.drew{a w:aB}(h:gj a w):gj a w.drew:=⟨h.1.drew,Nat.le_succ_of_le h.2⟩
def gj.drewN{a w:aB}(h:gj a w)(n:Nat):gj a (w.drewN n):=⟨h.1.drewN n,eu h.2 (Nat.le_add_right _ _)⟩
def gj.grow{w w':aB}(h:gj w w'):∃q f,w'=Sort.grow (w.drewN q) f:=by
 obtain⟨g,e⟩:=h;have a:w'.os=w.os:=vE g;have b:w'.tape=w.tape:=aeR g;have c:w'.output=w.output:=vr g;refine⟨w'.drawn-w.drawn,w'.heap.extract w.heap.size w'.heap.size,?_⟩;have d:w'.heap=w.heap++w'.heap.extract w.heap.size w'.heap.size:=by
  apply xH;intro i;have k:=g.size;by_cases hi:i<w.heap.size
  .rw[g.block hi,vq,aG hi]
  .rw[vq,aF hi,Array.getElem?_extract]
   by_cases j:i<w'.heap.size
   .rw[aG (by omega),show w.heap.size+(i-w.heap.size)=i by omega]
   .rw[aF (by omega),x_ (by omega)]
 cases w';cases w
 simp only[Sort.grow,World.drewN,zk];simp only at d e a b c;exact⟨d,b,by omega,a,c⟩
def gj.of_grow(w:aB)(q:Nat)(b:Array Obj):gj w (Sort.grow (w.drewN q) b):=
 ⟨⟨rfl,rfl,rfl,by simp,fun k a=>by rw[Sort.heap_grow_old _ _ (by exact a)];rfl⟩,Nat.le_add_right _ _⟩
def tO{P:Program}{f:FuncId}{args:Array Value}{w:aB}{n:Nat}{v:Value}
  (h:Calls P f args (w.drewN n) fun e w'=>e=.returned v/\w.drewN n=w'):Calls P f args (w.drewN n) fun e a=>e=.returned v/\∃m,a=w.drewN m:=
 h.mono fun _ _ b=>⟨b.1,n,b.2.symm⟩
def iq(x y:Int):Int:=if x<y then-1 else if y<x then 1 else 0
def j6(x y:Int):Int:=if x=0 then y else x
def oK{n:Nat}(x y:Vector UInt8 n):Int:=Lib.compareBytes x.toList y.toList
def PB(x:Int)(w:aB):Calls prog 243 #[.int .i64 x] w fun e w'=>e=.returned (.bool false)/\w=w':=by
 go_in;go_wp2;go_ret;exact⟨by simp,rfl⟩
def Ko(x y:Int)(w:aB):Calls prog 212 #[.int .i64 x,.int .i64 y] w fun e w'=>e=.returned (.int .i64 (iq x y))/\w=w':=by
 go_in;go_wp2_with (go_at_call 243;refine dK (PB _ _) ?_);all_goals
  go_ret;refine⟨eJ ?_,rfl⟩;unfold iq;repeat' split
  all_goals (try omega)
def MG(b:Nat)(x y:Int)(w:aB)(h:w.cell? (aD b 0)=some (.int .i64 x))(i:w.cell? (aD b 1)=some (.int .i64 y)):
  Calls prog 211 #[aR b 0 2 2] w fun e w'=>e=.returned (.int .i64 (j6 x y))/\w=w':=by
 by_cases d:x=0
 .subst d
  by_cases f:y=0
  .subst f
   have a:j6 0 0=0:=rfl;have c:=aA a;go_in;go_wp2;refine sS 3 ?_;rw[lS];go_wp2;rw[lS];go_wp2;rw[lS];go_wp2;go_ret;exact⟨eJ c.symm,rfl⟩
  .have a:j6 0 y=y:=rfl
   have c:=aA a;have g:(y != 0)=true:=by simpa using f
   go_in;go_wp2;refine sS 2 ?_;rw[lS];go_wp2;rw[lS];go_wp2;go_ret;exact⟨eJ c.symm,rfl⟩
 .have a:j6 x y=x:=by unfold j6;rw[aF d]
  have c:=aA a;have g:(x != 0)=true:=by simpa using d
  go_in;go_wp2;refine sS 1 ?_;rw[lS];go_wp2;go_ret;exact⟨eJ c.symm,rfl⟩
def nU(w:aB)(b k:Nat)(x:aM):Prop:=∀j (h:j<x.length),w.cell? (aD b (k+j))=some (.int .u8 (x[j].toNat:Int))
def Um(x y:aM)(k:Nat)(a:k<x.length)(b:k<y.length):Lib.compareBytes (x.drop k) (y.drop k)=j6 (iq (x[k].toNat:Int) (y[k].toNat:Int)) (Lib.compareBytes (x.drop (k+1)) (y.drop (k+1))):=by
 rw[kR a,kR b];rw[Lib.compareBytes];generalize Lib.compareBytes (List.drop (k+1) x) (List.drop (k+1) y)=r;rcases Nat.lt_trichotomy x[k].toNat y[k].toNat with c|c|c
 .have e:iq (x[k].toNat:Int) (y[k].toNat:Int)= -1:=by unfold iq;rw[aG (by omega)]
  rw[e,aG (q9.2 c)];rfl
 .have e:iq (x[k].toNat:Int) (y[k].toNat:Int)=0:=by unfold iq;rw[aF (by omega),aF (by omega)]
  rw[e,aF (fun h=>by have:=q9.1 h;omega),aF (fun h=>by have:=q9.1 h;omega)];rfl
 .have e:iq (x[k].toNat:Int) (y[k].toNat:Int)=1:=by unfold iq;rw[aF (by omega),aG (by omega)]
  rw[e,aF (fun h=>by have:=q9.1 h;omega),aG (q9.2 c)];rfl
def Zv(x:Int):iq x x=0:=by unfold iq;simp
def Gy(w:aB)(n t b:Nat)(x:Vector UInt8 n)(hb:b=w.heap.size):nU (w.alloc (aC (bC x) t)) b 0 x.toList:=by
 intro j a;rw[World.cell?_alloc_at _ _ _ _ hb];simp only[bC,fB];simp at a|-
 simp[a]
def nU.gr{w w':aB}{b k:Nat}{x:aM}(h:nU w b k x)(c:Gr w w')(a:b<w.heap.size):nU w' b k x:=fun j d=>(c.cell (p:=⟨b,k+j,none⟩) a).trans (h j d)
section
structure LD where
 n:Nat
 os:Array Obj
 deriving Inhabited
def lw(w:aB)(p:LD):World:=Sort.grow (w.drewN p.n) p.os
structure GD where
 d:Nat
 os:Array Obj
 deriving Inhabited
def gw(w:aB)(p:GD):World:={ w with heap:=w.heap++p.os,drawn:=p.d }
theorem Wo(w:aB)(p:GD){k:Nat}(h:k<w.heap.size):(gw w p).heap[k]? =w.heap[k]? :=by simp[gw,vq,h]
theorem cK(w:aB)(p:GD):Gr w (gw w p):=⟨rfl,rfl,rfl,by simp[gw],fun _ a=>Wo w p a⟩
theorem j'(w:aB)(p:LD):gj w (lw w p):=gj.of_grow w p.n p.os
theorem gj.lw{w w':aB}(h:gj w w'):∃p:LD,w'=lw w p:=by obtain⟨q,b,a⟩:=h.grow;exact⟨⟨q,b⟩,a⟩
theorem Gr.gw{w w':aB}(h:Gr w w'):∃p:GD,w'=gw w p:=by
 have a:w'.os=w.os:=vE h;have b:w'.tape=w.tape:=aeR h;have c:w'.output=w.output:=vr h;refine⟨⟨w'.drawn,w'.heap.extract w.heap.size w'.heap.size⟩,?_⟩;have d:w'.heap=w.heap++w'.heap.extract w.heap.size w'.heap.size:=by
  apply xH;intro i;have f:=h.size;by_cases hi:i<w.heap.size
  .rw[h.block hi,vq,aG hi]
  .rw[vq,aF hi,Array.getElem?_extract]
   by_cases e:i<w'.heap.size
   .rw[aG (by omega),show w.heap.size+(i-w.heap.size)=i by omega]
   .rw[aF (by omega),x_ (by omega)]
 cases w';cases w
 simp only[Go.Proofs.YtjfaogajmoffoaaGreatDoor.gw,zk];simp only at d a b c;exact⟨d,b,eV,a,c⟩
@[go_sem] theorem af0 (w:aB) (p:GD) (b k:Nat) (h:b<w.heap.size):(gw w p).cell? (aD b k)=w.cell? (aD b k):=(cK w p).cell h
@[go_sem] theorem afL (w:aB) (p:GD) (b k:Nat) (h:b<w.heap.size):(gw w p).frozen? (aD b k)=w.frozen? (aD b k):=(cK w p).frozen h
@[go_sem] theorem agG (w:aB) (p:GD) (b k n:Nat) (h:b<w.heap.size):rowAt (gw w p) (aD b k) n=rowAt w (aD b k) n:=(cK w p).rowAt h
@[go_sem] theorem aeu (w:aB) (p:GD) (b k n:Nat) (h:b<w.heap.size):hasRow (gw w p) (aD b k) n=hasRow w (aD b k) n:=(cK w p).hasRow h
@[go_sem] theorem ahe (w:aB) (p:LD) (b k:Nat) (h:b<w.heap.size):(lw w p).cell? (aD b k)=w.cell? (aD b k):=(j' w p).1.cell h
@[go_sem] theorem af1 (w:aB) (p:LD) (b k:Nat) (h:b<w.heap.size):(lw w p).frozen? (aD b k)=w.frozen? (aD b k):=(j' w p).1.frozen h
@[go_sem] theorem ae3 (w:aB) (p:LD) (b k n:Nat) (h:b<w.heap.size):rowAt (lw w p) (aD b k) n=rowAt w (aD b k) n:=(j' w p).1.rowAt h
@[go_sem] theorem ahp (w:aB) (p:LD) (b k n:Nat) (h:b<w.heap.size):hasRow (lw w p) (aD b k) n=hasRow w (aD b k) n:=(j' w p).1.hasRow h
theorem oO(w:aB):∃p:LD,w.drew=lw w p:=⟨⟨1,#[]⟩,by simp[lw];rfl⟩
theorem nM(w:aB):∃p:GD,w.drew=gw w p:=⟨⟨w.drawn+1,#[]⟩,by cases w;simp only[gw,Array.append_empty];rfl⟩
section
variable {P:Program} {f:FuncId} {args:Array Value} {W:World} {v:Value}
theorem adb{p:LD}(h:Calls P f args (lw W p) fun e w'=>e=.returned v/\gj (lw W p) w'):Calls P f args (lw W p) fun e a=>e=.returned v/\∃q:LD,a=lw W q:=
 h.mono fun _ _ ⟨b,c⟩=>⟨b,((j' W p).trans c).lw⟩
theorem uO{p:LD}(h:Calls P f args (lw W p) fun e w'=>e=.returned v/\lw W p=w'):Calls P f args (lw W p) fun e a=>e=.returned v/\∃q:LD,a=lw W q:=
 h.mono fun _ _ ⟨b,c⟩=>⟨b,p,c.symm⟩
theorem eE{p:GD}(h:Calls P f args (gw W p) (RG (gw W p) v)):Calls P f args (gw W p) fun e a=>e=.returned v/\∃q:GD,a=gw W q:=
 h.mono fun _ _ ⟨b,c⟩=>⟨b,((cK W p).trans c).gw⟩
theorem E5{p:GD}(h:Calls P f args (gw W p) fun e w'=>e=.returned v/\gw W p=w'):Calls P f args (gw W p) fun e a=>e=.returned v/\∃q:GD,a=gw W q:=
 h.mono fun _ _ ⟨b,c⟩=>⟨b,p,c.symm⟩
end
end
def DR{P:Program}(w:aB)(b:Nat):∀(x:aM) (k:Nat) (a:aJ),nU w b k x->(Extern.Bytes.loadBytes (aD b k) x.length a).run P w=.ok ⟨a.data++x.toArray⟩ w
 |[],k,a,_=>by simp[Extern.Bytes.loadBytes]
 |c::x,k,a,h=>by
  have d:=h 0 (by simp)
  have i:=DR (P:=P) w b x (k+1) (a.push c) (fun j g=>by
   have:=h (j+1) (by simpa using g);rw[show k+1+j=k+(j+1) by omega];simpa using this)
  have e:((aD b k):Addr).add 1=⟨b,k+1,none⟩:=fO b k 1;simp only[ms,eX]at d;have f:((c.toNat:Int).toNat.toUInt8)=c:=by simp
  simp only[dN,Extern.Bytes.loadBytes,nc,run_load,d,Result.andThen,e,f,i];congr 1;simp[ByteArray.push]
def RY{P:Program}(w:aB)(a c e b d f:Nat)(x y:aM)(g:nU w a c x)(h:nU w b d y):
  (Extern.BytealgCompare.compare #[aR a c x.length e,aR b d y.length f]).run P w=.ok (.int .i64 (Lib.compareBytes x y)) w:=by
 change Sem.run P (do pure (goInt (Extern.BytealgCompare.cmp (<-Extern.Bytes.bytesOf (aR a c x.length e)) (<-Extern.Bytes.bytesOf (aR b d y.length f))))) w=_;simp only[Extern.Bytes.bytesOf,nc,DR w a x c _ g,DR w b y d _ h,sA,Result.andThen];rw[Lib.cmp_eq];simp[goInt]
def Cj(a c f b d g:Nat)(x y:aM)(w:aB)(h:nU w a c x)(i:nU w b d y):
  Calls prog 213 #[aR a c x.length f,aR b d y.length g] w fun e w'=>e=.returned (.int .i64 (Lib.compareBytes x y))/\w=w':=by
 have j:=aA (RY (P:=prog) w a c f b d g x y h i);go_in;go_wp2_with fail;rw[run_callFunc_extern func244 (by kernel_rfl) (by kernel_rfl) (by kernel_rfl) (e:=Extern.BytealgCompare.compare) (by kernel_rfl),j.out];simp only[Result.andThen];rw[yY];go_wp2;go_ret;exact⟨rfl,rfl⟩
def Dx{n:Nat}(x:Vector UInt8 n):x.toList.length=n:=by simp
def WJ(x y:Id)(w:aB):Calls prog 214 #[aE (bC x),aE (bC y)] w fun e w'=>e=.returned (.int .i64 (oK x y))/\gj w w':=by
 have b:=Gy w 32 26 w.heap.size x rfl;have a:nU ((w.alloc (aC (bC x) 26)).alloc (aC (bC y) 26)) w.heap.size 0 x.toList:=b.gr ((Gr.refl _).alloc _) (by simp);have c:=Gy (w.alloc (aC (bC x) 26)) 32 26 (w.heap.size+1) y (by simp);have h:gj w ((w.alloc (aC (bC x) 26)).alloc (aC (bC y) 26)):=((gj.refl w).alloc _).alloc _;generalize g:(w.alloc (aC (bC x) 26)).alloc (aC (bC y) 26)=W at*
 have f:=aA (fun n=>Cj w.heap.size 0 32 (w.heap.size+1) 0 32 x.toList y.toList (W.drewN n) (fun j d=>a j d) (fun j d=>c j d));simp only[Dx]at f;have k:=aA g;have i:=aA h;clear b a c h g;go_in;go_wp2_with fail;rw[k.out]
 go_quiet ((go_at_call 213;exact tO (f _)))
 go_wp2_with fail;go_ret;exact⟨rfl,i.drewN _⟩
def AF(w:aB)(t:TypeId)(A B:bF):gj w ((w.alloc (aC A t)).alloc (aC B t))/\w.heap.size+1<((w.alloc (aC A t)).alloc (aC B t)).heap.size/\
  HB ((w.alloc (aC A t)).alloc (aC B t)) (w.heap.size) A t/\HB ((w.alloc (aC A t)).alloc (aC B t)) (w.heap.size+1) B t:=
 ⟨((gj.refl w).alloc _).alloc _,by simp,pg w _ _,lh w _ _⟩
def bX(w:aB)(v:Value)(n:Nat)(l:List bF):Prop:=
 ∃a c,v=.slice a l.length c/\l.length<=c/\∀j (h:j<l.length),∃b k,a=some (aD b k)/\b<w.heap.size/\hasRow w (aD b (k+j*n)) n=true/\rowAt w (aD b (k+j*n)) n=l[j]
def bX.gr{w w':aB}{v:Value}{n:Nat}{l:List bF}(h:bX w v n l)(e:Gr w w'):bX w' v n l:=by
 obtain⟨a,c,q,o,p⟩:=h;refine⟨a,c,q,o,fun j f=>?_⟩;obtain⟨b,k,m,d,g,i⟩:=p j f;exact⟨b,k,m,dQ d e.size,(e.hasRow d).trans g,(e.rowAt d).trans i⟩
def eR(w:aB)(v:Value)(l:List cE):Prop:=bX w v 16 (l.map bC)
def eR.gr{w w':aB}{v:Value}{l:List cE}(h:eR w v l)(a:Gr w w'):eR w' v l:=bX.gr h a
def K_{rows:List bF}{size:Nat}(h:∀r∈rows,r.length=size):rows.flatten.length=rows.length*size:=by
 induction rows with
 |nil=>simp
 |cons r rows b=>rw[yw,bV,b (fun x a=>h x (by simp[a])),h r (by simp),dN,wK,pl]
def Ck{size:Nat}:∀{rows:List bF},(∀r∈rows,r.length=size)->∀(j:Nat) (a:j<rows.length),dD rows.flatten (j*size) size=rows[j]
 |r::rows,h,0,a=>by
  have b:=h r (by simp);rw[yw,rx];exact gP _ _ _ b
 |r::rows,h,j+1,a=>by
  have b:=h r (by simp);rw[yw,eQ _ _ _ _ size b (by rw[wK];omega),wK,yy];exact Ck (fun x c=>h x (by simp[c])) j (by simpa using a)
def Tn(cs:bF)(k n m:Nat)(h:k+n<=m):dD (cs.take m) k n=dD cs k n:=by
 unfold dD;rw[BW,List.take_take,tS (by omega)]
def rf{w:aB}{base:Nat}{e:TypeId}{size:Nat}{v:Value}{rows:List bF}(n:∀r∈rows,r.length=size)(h:w.ownsRow base e size v rows.length rows.flatten):bX w v size rows:=by
 obtain⟨_,k⟩:=h;rcases k with⟨rfl,i⟩|⟨g,b,a,rfl,p,c,m,q,f,o⟩
 .exact⟨none,0,by rw[i],by omega,fun j d=>by omega⟩
 .refine⟨some (aD g 0),b,rfl,m,fun j d=>⟨g,0,rfl,(bY.1 c).1,?_,?_⟩⟩
  .rw[fB]
   refine aP (cs:=a.toList) (t:=e) (fr:=(0,0)) c _ _ ?_;rw[Array.length_toList,f,<-wK];exact AQ _ (by omega)
  .rw[fB]
   have l:j*size+size<=a.toList.length:=by rw[Array.length_toList,f,<-wK];exact AQ _ (by omega)
   rw[bJ (cs:=a.toList) (t:=e) (fr:=(0,0)) c _ _ l,<-Ck n j d,<-o,Tn];rw[<-wK];exact AQ _ (by omega)
def bX.cells{w:aB}{size:Nat}{rows:List bF}{b k:Nat}(i:∀r∈rows,r.length=size)
  (h:∀j (s:j<rows.length),hasRow w (aD b (k+j*size)) size=true/\rowAt w (aD b (k+j*size)) size=rows[j]):
  ∀j u,rows.flatten[j]? =some u->w.cell? (((aD b k):Addr).add j)=some u:=by
 intro m u n;have f:m<rows.length*size:=by have:=(nG.1 n).1;rwa[K_ i]at this
 have l:0<size:=by
  rcases Dv size with e|e;·rw[e]at f;omega
  .exact e
 have g:m/size<rows.length:=(Nat.div_lt_iff_lt_mul l).2 f;have t:m%size<size:=qS _ l;have a:m/size*size+m%size=m:=Nat.div_add_mod' m size;obtain⟨o,p⟩:=h (m/size) g;have d:=kr.1 o (m%size) t;rw[fO]at d|-
 rw[l8,a]at d;have c:(rowAt w (aD b (k+m/size*size)) size)[m%size]? =some ((w.cell? (aD b (k+m))).getD undef):=by
  rw[rowAt,fo,qf t,jm,fO,l8,a]
 rw[p,<-Ck i (m/size) g,dD,mi,aG t,kM,a,n]at c;obtain⟨x,q⟩:=xG.1 d;rw[q]at c|-
 exact c.symm
def Sw{w:aB}{size:Nat}{rows:List bF}{a:dB}(g:0<rows.length)
  (h:∀j (d:j<rows.length),∃b k,a=some (aD b k)/\b<w.heap.size/\hasRow w (aD b (k+j*size)) size=true/\rowAt w (aD b (k+j*size)) size=rows[j]):
  ∃b k,a=some (aD b k)/\b<w.heap.size/\∀j (d:j<rows.length),hasRow w (aD b (k+j*size)) size=true/\rowAt w (aD b (k+j*size)) size=rows[j]:=by
 obtain⟨b,k,f,m,_⟩:=h 0 g;refine⟨b,k,f,m,fun j d=>?_⟩;obtain⟨n,o,c,_,i,l⟩:=h j d;rw[f]at c;injection c with e;injection e with e1 e2;subst e1;subst e2;exact⟨i,l⟩
def bX.keep{w w':aB}{a:dB}{m c:Nat}{n:Nat}{l:List bF}(h:bX w (.slice a m c) n l)(u:∀x,a=some x->w'.heap[x.block]? =w.heap[x.block]?) (v:w.heap.size<=w'.heap.size):bX w' (.slice a m c) n l:=by
 obtain⟨z,g,y,r,t⟩:=h;injection y with e1 e2 e3;subst e1;subst e3;refine⟨a,c,by rw[e2],r,fun j e=>?_⟩;obtain⟨b,k,f,q,o,p⟩:=t j e;have s:=u _ f;have d:∀i,i<n->w'.cell? (((aD b (k+j*n)):Addr).add i)=w.cell? (((aD b (k+j*n)):Addr).add i):=fun i _=>vg (w:=w) (by rw[sZ];exact s);exact⟨b,k,f,dQ q v,(xM d).trans o,(yD d).trans p⟩
def J2{n:Nat}(l:List (Vector UInt8 n)):∀r∈l.map bC,r.length=n:=by
 intro r a;obtain⟨x,_,rfl⟩:=iQ.1 a;exact a_ x
def acC{rows:List bF}(h:∀r∈rows,cN r=true):∀u∈rows.flatten,u.oneCell'=true:=by
 intro u c;obtain⟨r,b,a⟩:=List.mem_flatten.1 c;exact gY.1 (h r b) u a
def aab:(prog.info? 42).map (fun i=>(i.zero,i.size,i.bytes))=some (some (.agg (Array.replicate 16 (.int .u8 0))),16,16):=by kernel_rfl
def ql{w:aB}{base:Nat}{e:TypeId}{size:Nat}{v:Value}{n:Nat}{i:bF}(h:w.ownsRow base e size v n i):∃a c,v=.slice a n c/\(a=none->n=0/\c=0):=by
 rcases h.2 with⟨d,f⟩|⟨g,b,_,d,_⟩
 .exact⟨none,0,by rw[d,f],fun _=>⟨f,rfl⟩⟩
 .exact⟨_,b,d,fun h=>by cases h⟩
def v_{P:Program}(w:aB)(base:Nat)(t T e:TypeId)(i:TypeInfo)(z:Value)(size d:Nat)(L:P.underlying t=some (.slice e))(hi:P.info? e=some i)(Z:i.zero=some z)(p:i.size=size)(E:i.bytes=d)(N:z.cells.size=size)(K:0<size)
  (v:Value) (n:Nat) (O:bF) (f:w.ownsRow base e size v n O) (s:Value) (rows:List bF) (Y:bX w s size rows) (S:∀r∈rows,r.length=size) (W:∀r∈rows,cN r=true) (D:n+rows.length<=1000000) (y:d<=1000) (o:base<=w.heap.size):
  ∃a c w',(Builtin.append_ #[t,t] T #[v,s]).run P w=.ok (.slice a (n+rows.length) c) w'/\w'.ownsRow base e size (.slice a (n+rows.length) c) (n+rows.length) (O++rows.flatten)/\w.grownBy w' v.ownBlock/\((Value.slice a (n+rows.length) c).ownBlock=v.ownBlock\/(Value.slice a (n+rows.length) c).ownBlock=some w.heap.size):=by
 obtain⟨a,q,rfl,hc,R⟩:=Y;have l:(n+rows.length)*d<=140737488355328:=eu (Nat.mul_le_mul D y) (aH rfl);rcases a with _|Q
 .have F:rows=[]:=by
   rcases Dv rows.length with h|h
   .exact fQ.1 h
   .obtain⟨b,k,h,_⟩:=R 0 h;cases h
  subst F;obtain⟨a',C,B,_⟩:=ql f;refine⟨a',C,w,?_,by simpa[B]using f,⟨rfl,rfl,rfl,aU _,fun _ _ _=>rfl⟩,.inl (by rw[B];cases a'<;>rfl)⟩;rcases f.2 with⟨rfl,rfl⟩|⟨g,q,U,rfl,_,_,G,_⟩
  .injection B with e1 e2 e3
   subst e1;subst e3;simp[Builtin.append_,lQ L,sizeOf,typeInfo,hi,Builtin.lenOf,Builtin.firstCells]
  .injection B with e1 e2 e3
   subst e1;subst e3;simp[Builtin.append_,lQ L,sizeOf,typeInfo,hi,Builtin.lenOf,Builtin.firstCells,G,storeCells]
 .have m:∀j u,rows.flatten[j]? =some u->w.cell? (Q.add j)=some u:=by
   intro j u M;have V:0<rows.length:=by
    rcases Dv rows.length with h|h
    .rw[fQ.1 h]at M;simp at M
    .exact h
   obtain⟨b,k,y,X,x⟩:=Sw V R;injection y with y;subst y;exact bX.cells S x j u M
  obtain⟨v',w',H,A,I,_,J⟩:=run_append_own_at (P:=P) w base t T e i z size d L hi Z p E N K v n O f Q rows.length q rows.flatten (K_ S) m (acC W) (by unfold maxLen;omega) l o;obtain⟨a',C,rfl,_⟩:=ql A;exact⟨a',C,w',H,A,I,J⟩
def tU{P:Program}(w:aB){f:Array Oper}{rest:List Oper}{o:Oper}{a:Act}{Q:Exit->Act->aB->Prop}(g:o.guard=none)(s x:Operand)(t:TypeId)
  (p:o.op=.call { callee:=.builtin .append,args:=#[s,x],argTypes:=#[t,t] })
  (base:Nat) (e:TypeId) (i:TypeInfo) (z:Value) (size bytes:Nat) (ht:P.underlying t=some (.slice e)) (hi:P.info? e=some i) (hz:i.zero=some z) (hsize:i.size=size) (hby:i.bytes=bytes) (hzs:z.cells.size=size) (hsz:0<size)
  (v:Value) (n:Nat) (xs:bF) (hs:a.eval s=v) (hown:w.ownsRow base e size v n xs) (sv:Value) (rows:List bF) (hx:a.eval x=sv) (hsl:bX w sv size rows) (hr:∀r∈rows,r.length=size) (h1:∀r∈rows,cN r=true) (h63:n+rows.length<=1000000) (hb:bytes<=1000) (hbase:base<=w.heap.size)
  (h:∀b c w',w'.ownsRow base e size (.slice b (n+rows.length) c) (n+rows.length) (xs++rows.flatten)->w.grownBy w' v.ownBlock->((Value.slice b (n+rows.length) c).ownBlock=v.ownBlock\/(Value.slice b (n+rows.length) c).ownBlock=some w.heap.size)->wpList P f Q rest (a.put o.dst (.slice b (n+rows.length) c)) w'):
  wpList P f Q (o::rest) a w:=by
 refine wpList_plain g fun K m=>?_;obtain⟨b,c,w',d,j,k,l⟩:=v_ (P:=P) w base t o.type e i z size bytes ht hi hz hsize hby hzs hsz v n xs hown sv rows hsl hr h1 h63 hb hbase;unfold Oper.wp execOp;simp only[p,resolve,invoke,builtin,nc,sA,nZ,List.map_toArray,gt,nI,hs,hx,d];exact m _ _ (h b c w' j k l)
def bX.take{w:aB}{a:dB}{n c size:Nat}{rows:List bF}(h:bX w (.slice a n c) size rows)(k:Nat)(t:k<=rows.length):bX w (.slice a k c) size (rows.take k):=by
 obtain⟨r,f,q,s,p⟩:=h;injection q with e1 e2 e3;subst e1;subst e3;have d:(rows.take k).length=k:=by rw[dP];omega
 refine⟨a,c,by rw[d],by rw[d];omega,fun j e=>?_⟩;rw[d]at e;obtain⟨b,o,l,m,g,i⟩:=p j (by omega);exact⟨b,o,l,m,g,by rw[i,DL]⟩
def bX.drop{w:aB}{b o n c size:Nat}{rows:List bF}(h:bX w (aR b o n c) size rows)(k:Nat)(v:k<=rows.length)(a:Nat)(e:rows.length-k<=a):bX w (aR b (o+k*size) (n-k) a) size (rows.drop k):=by
 obtain⟨s,i,r,u,q⟩:=h;injection r with e1 e2 e3;subst e1;subst e2;have f:(rows.drop k).length=rows.length-k:=eh;refine⟨_,a,by rw[f],by rw[f];exact e,fun j g=>?_⟩;rw[f]at g;obtain⟨t,x,d,p,l,m⟩:=q (k+j) (by omega);injection d with d;injection d with e1 e2;subst e1;subst e2;refine⟨b,o+k*size,rfl,p,?_,?_⟩
 .rw[l8,<-Be];exact l
 .rw[l8,<-Be,m,xe]
section
open Go.Maps (Keyed)
def yQ:laidOutB prog=true:=by kernel_rfl
def tW:Keyed prog 26 :=Keyed.of_law (deep_law_laid yQ (m:=2) (by omega) (oG (by kernel_rfl)) (by kernel_rfl) (by kernel_rfl))
def Dw{d g:Type}(f:d->Option g):∀(L:List d),(∀i∈L,∃y,f i=some y)->∃c,L.mapM f=some c
 |[],_=>⟨[],rfl⟩
 |a::L,h=>by
  obtain⟨y,e⟩:=h a (by simp);obtain⟨c,b⟩:=Dw f L (fun i hi=>h i (by simp[hi]));exact⟨y::c,by simp[List.mapM_cons,e,b]⟩
def Ks(d:Nat)(b:UInt8):prog.keyLits (d+1) 5 [.int .u8 (b.toNat:Int)]=some [.int .u8 (b.toNat:Int)]:=by
 have a:(Lit.int .u8 (b.toNat:Int)).wf=true:=by
  have:=b.toNat_lt;simp[Lit.wf,IntKind.min,IntKind.max,IntKind.bits,IntKind.signed];omega
 simp[Program.keyLits,underlying5,a]
def Nc(x:Id):∃l,keyOf prog 26 (aE (bC x))=some l:=by
 obtain⟨d,e⟩:∃d,prog.types.size=d+1:=Jd (by decide+kernel);have g:prog.keyType 26 =true:=by kernel_rfl
 have f:(Value.agg (bC x).toArray).formed prog 26 =true:=by simp[Value.formed,underlying26,vu,a_]
 obtain⟨c,a⟩:=Dw (fun i=>prog.keyLits (d+1) 5 (((bC x).drop (i*prog.cellsOf 5)).take (prog.cellsOf 5))) (List.range 32) (fun i hi=>by
  have b:i<32:=by simpa using hi
  rw[cellsByte,ld,kR (by rw[a_];exact b)];simp only[bC,ig,gR,fy];exact⟨_,Ks d _⟩)
 have h:prog.keyLits (prog.types.size+1) 26 (bC x)=some c.flatten:=by
  rw[e];simp only[Program.keyLits,underlying26];rw[aG (by rw[a_,vu])];simp only[Program.keyLits,underlying5]at a|-
  rw[a];rfl
 refine⟨.string (keyBytes c.flatten),?_⟩;unfold keyOf;rw[underlying26];simp only[g,f,zH,vC,Value.cells,wN,h,jm]
noncomputable def kl(x:Id):Lit:=Classical.choose (Nc x)
def tC(x:Id):keyOf prog 26 (aE (bC x))=some (kl x):=Classical.choose_spec (Nc x)
def ID{x y:Id}(h:kl x=kl y):x=y:=by
 have a:=tC x;rw[h]at a;have:=tW.inj a (tC y);exact F_ (C' (Value.agg.inj this))
def JC(x:Id):WideAt.IsKeyLit (kl x):=tW.key (tC x)
end
def sG(w:aB)(v:Value)(l:bP):Prop:=
 ∃a c,v=.slice a l.length c/\∀j (h:j<l.length),∃b k,a=some (aD b k)/\b<w.heap.size/\w.cell? (aD b (k+j))=some (.string l[j])
def sG.gr{w w':aB}{v:Value}{l:bP}(h:sG w v l)(f:Gr w w'):sG w' v l:=by
 obtain⟨a,c,n,m⟩:=h;refine⟨a,c,n,fun j d=>?_⟩;obtain⟨b,k,i,e,g⟩:=m j d;exact⟨b,k,i,dQ e f.size,(f.cell (p:=⟨b,k+j,none⟩) e).trans g⟩
def vk(l:bP)(p:aJ->Bool)(k:Nat):Bool:=(l.take k).any p
def X7(l:bP)(p:aJ->Bool)(k:Nat)(h:k<l.length):vk l p (k+1)=(vk l p k||p l[k]):=by
 unfold vk;rw[eF h,wy];simp
def ab6(b:Bool)(w:aB)(e:Ending)(w':aB):Prop:=∃i:Int,e=.returned (.int .i64 i)/\(decide (0<=i)=b)/\Gr w w'
def abH(l:bP)(v:Value)(p:aJ->Bool)(g:Nat)(lb:Array Value)(w:aB)(H:∀args w,(callFunc g args).run prog w=.ok (.enter g args) w)
  (x:∀s∈l,∀W,Gr w W->Calls prog g (#[.string s]++lb) W (RG W (.bool (p s)))) (G:sG w v l) (J:l.length<=1000000):
  Calls prog 264 #[v,.func (.func g) #[] lb] w (ab6 (l.any p) w):=by
 obtain⟨a,D,rfl,u⟩:=G;have y:=aA u;have z:=aA x;go_in;go_wp2_with fail
 go_loopw [8] (fun i wr=>∃k:Nat,k<=l.length/\i=.int .i64 k/\Hid (vk l p k=false)/\Hid (Gr w wr)) (fun i _=>l.length-(intOf i).toNat)
 .exact⟨0,bW _,rfl,rfl,Gr.refl w⟩
 .
  obtain⟨k,I,rfl,t,m⟩:=hrel;by_cases d:k<l.length
  .obtain⟨b,o,rfl,F,r⟩:=y.out k d
   have B:=aA (X7 l p k d);have E:=(m.cell (p:=⟨b,o+k,none⟩) F).trans r;have c:Hid (l[k]∈l):=kA d;have f:Hid (p l[k]=true->l.any p=true):=fun h=>mD.2 ⟨_,c,h⟩;generalize l[k]=s at*
   go_wp2_with fail;refine bA (z s c _ m) fun K j=>?_;have q:=aA (m.trans j);clear j
   cases hx:p s with
   |true=>
    have n:=aA hx;go_wp2_with fail;go_ret;refine⟨_,rfl,?_,q⟩;rw[f.out n.out];simp
   |false=>
    have n:=aA hx;go_wp2_with fail;go_roundw
    .exact⟨k+1,by omega,by go_num,by show _=_;rw[B.out,t.out,n.out];rfl,q⟩
    .simp[intOf];omega
  .go_wp2_with fail
   go_ret;refine⟨_,rfl,?_,m⟩;have:l.any p=vk l p k:=by unfold vk;rw[eq (by omega)]
   rw[this,t.out];decide
def XH(l:bP)(v:Value)(p:aJ->Bool)(g:Nat)(lb:Array Value)(w:aB)(c:∀args w,(callFunc g args).run prog w=.ok (.enter g args) w)
  (d:∀s∈l,∀W,Gr w W->Calls prog g (#[.string s]++lb) W (RG W (.bool (p s)))) (f:sG w v l) (k:l.length<=1000000):
  Calls prog 229 #[v,.func (.func g) #[] lb] w (RG w (.bool (l.any p))):=by
 have h:=aA (abH l v p g lb w c d f k);clear d f c;go_in;go_wp2_with fail;refine h.mono ?_;rintro e m ⟨i,rfl,hi,b⟩;have a:=aA hi;clear hi;go_wp2_with fail;go_ret;exact⟨eU a,b⟩
def ff(w:aB):Prop:=∃m:Int,w.cell? (aD 4 0)=some (.int .i64 m)
def ff.gr{w w':aB}(h:ff w)(a:Gr w w'):ff w':=by
 obtain⟨m,b⟩:=h;exact⟨m,(a.cell (p:=⟨_,0,none⟩) (ka w _ b)).trans b⟩
def oI(c:Int):Bool:=decide (97<=c)&&decide (c<=122)
def j_(c:Int):Bool:=!oI c&&(decide (c<48)||decide (57<c))&&c != 45&&c != 43&&c != 95
def AJ(c:Int)(w:aB):Calls prog 265 #[.int .u8 c] w fun e w'=>e=.returned (.bool (oI c))/\w=w':=by
 go_in;go_wp2;all_goals
  go_ret;refine⟨eU ?_,rfl⟩;unfold oI;rw[kE];simp;omega
def PJ(c:Int)(w:aB):Calls prog 267 #[.int .u8 c] w fun e w'=>e=.returned (.bool (j_ c))/\w=w':=by
 cases hl:oI c with
 |true=>
  have a:=aA hl;go_in;go_wp2_with (go_at_call 265;refine dK (AJ _ _) ?_;rw[a.out]);go_ret;exact⟨eU (by unfold j_;rw[a.out];rfl),rfl⟩
 |false=>
  have a:=aA hl;go_in;go_wp2_with (go_at_call 265;refine dK (AJ _ _) ?_;rw[a.out]);all_goals
   go_ret;refine⟨eU ?_,rfl⟩;unfold j_;first|(rw[a.out];simp_all;done)|(simp_all;done)|(simp_all;omega)
def ir(s:aJ):Bool:=decide (0<s.size)&&decide (s.size<=20)&&oI ((bl s).headD 0).toNat&&!((bl s).any fun c=>j_ c.toNat)
def Ti(w:aB):PredAt prog 267 #[] (fun c:UInt8=>.int .u8 (c.toNat:Int)) (fun c=>j_ c.toNat) w:=
 fun W c _=>(PJ (c.toNat:Int) W).mono fun _ _ ⟨a,b⟩=>⟨a,0,b.symm⟩
def PK(s:aJ)(w:aB):∃a W,(convert 9 94 (.string s)).run prog w=.ok (aR (w.heap.size) 0 s.size a) W/\gj w W/\nU W w.heap.size 0 (bl s)/\s.size<=a:=by
 refine⟨_,_,run_bytes_of_string w 9 94 5 s underlying9 underlying94 underlying5,(gj.refl w).drew.alloc _,?_,A' _ _ _ _⟩;intro j b;rw[bN]at b;have d:=cM w.drew (.cells (bytesRow s (grownCap w s.size 0 5)) 5 ((bytesRow s (grownCap w s.size 0 5)).size,(bytesRow s (grownCap w s.size 0 5)).size+1));have c:((w.drew.alloc (.cells (bytesRow s (grownCap w s.size 0 5)) 5 ((bytesRow s (grownCap w s.size 0 5)).size,(bytesRow s (grownCap w s.size 0 5)).size+1)))).heap[w.heap.size]? =some (.cells (bytesRow s (grownCap w s.size 0 5)) 5 ((bytesRow s (grownCap w s.size 0 5)).size,(bytesRow s (grownCap w s.size 0 5)).size+1)):=d
 rw[fB,oW _ _ _ _ _ _ c];unfold bytesRow;rw[vq,aG (by simpa using b)];have e:j<s.data.size:=b;simp only[Array.getElem?_map,ED e,jm,bl,Array.getElem_toList]
def zK(s:aJ)(d:0<s.size)(f:s.size<=20):ir s=(oI (s[0].toNat:Int)&&!((bl s).any fun c=>j_ c.toNat)):=by
 have:(bl s).headD 0=s[0]:=by
  have b:0<(bl s).length:=by rw[bN];exact d
  obtain⟨c,l,a⟩:∃c l,bl s=c::l:=by cases h:bl s with|nil=>rw[h]at b;simp at b|cons c l=>exact⟨c,l,rfl⟩
  have e:(bl s)[0]'b=s[0]:=rfl
  exact Eq.trans (show(bl s).headD 0=c by rw[a];rfl) (Eq.trans (by simp[a]) e)
 unfold ir;rw[this];simp[d,f]
def SV(s:aJ)(w:aB):Calls prog 231 #[.string s] w (RG w (.bool (ir s))):=by
 by_cases k:s.size=0
 .have hl:bl s=[]:=fQ.1 (by rw[bN];exact k)
  have i:s.toList=[]:=by rw[hI];exact hl
  have he:s.toList.isEmpty=true:=by rw[i];rfl
  have l:=aA (show ir s=false by unfold ir;simp[k])
  go_in;go_wp2_with fail;go_ret;exact⟨eU l.symm,Gr.refl w⟩
 .have z:0<s.size:=by omega
  have he:s.toList.isEmpty=false:=by rw[hI,tp];intro h;have:=bN s;rw[h]at this;simp at this;omega
  have i:¬s.toList=[]:=by intro h;rw[h]at he;cases he
  by_cases n:s.size<=20
  .have t:=aA (zK s z n)
   have y:decide (20<(s.size:Int))=false:=by simp;omega
   cases hl:oI (s[0].toNat:Int)with
   |true=>
    have d:=aA hl;obtain⟨f,W,u,b,g,o⟩:=PK s w;have m:∀args w,(callFunc 267 args).run prog w=.ok (.enter 267 args) w:=lV func267 (by kernel_rfl) rfl;have a:=AnyE.slices_ContainsFunc Tryz.containsByte (fun c:UInt8=>.int .u8 (c.toNat:Int)) (fun c=>j_ c.toNat) 267 #[] m w.heap.size 0 s.size f (bl s) W (Ti W) (by rw[bN];exact aU _) (by omega) (fun j p=>by rw[g j p,getElem!_pos (bl s) j p]);rw[eq (by rw[bN];exact aU _)]at a;have v:Hid (Calls prog 266 #[aR (w.heap.size) 0 s.size f,.func (.func 267) #[] #[]] W fun e w'=>e=.returned (.bool ((bl s).any fun c=>j_ c.toNat))/\∃q,w'=W.drewN q):=a;have x:=aA b;generalize((bl s).any fun c=>j_ c.toNat)=r at*
    go_in;go_wp2_with (first|(go_at_call 265;refine dK (AJ _ _) ?_;rw[d.out])|(go_at_call 266;refine v.mono ?_;rintro e w' ⟨rfl,q,rfl⟩));go_ret;exact⟨eU (by rw[t.out,d.out];rfl),x.1.drewN _⟩
   |false=>
    have d:=aA hl;go_in;go_wp2_with (go_at_call 265;refine dK (AJ _ _) ?_;rw[d.out]);go_ret;exact⟨eU (by rw[t.out,d.out];rfl),Gr.refl w⟩
  .have l:=aA (show ir s=false by unfold ir;simp[n])
   have y:decide (20<(s.size:Int))=true:=by simp;omega
   go_in;go_wp2_with fail;go_ret;exact⟨eU l.symm,Gr.refl w⟩
def iL(s:aJ):bP:=Lib.splitB ⟨#[46]⟩ 0 (Lib.countB s ⟨#[46]⟩) s
def jt(s:aJ):Int:=if 80<s.size then 5 else if((iL s).any fun p=>!ir p)=true then 12 else if 10<(iL s).length then 9 else 0
def Jm(s:aJ):(iL s).length=Lib.countB s ⟨#[46]⟩+1:=Lib.splitB_all ⟨#[46]⟩ (aH rfl) 0 _ s rfl
def L1(s:aJ):(iL s).length<=s.size+1:=by rw[Jm];have:=Lib.countB_le ⟨#[46]⟩ (aH rfl) s.size s (aU _);omega
def UQ(w:aB)(l:bP)(a:Nat):sG (w.alloc (aC (l.map Value.string) 9)) (aR (w.heap.size) 0 l.length a) l:=by
 refine⟨_,a,rfl,fun j b=>⟨w.heap.size,0,rfl,by simp,?_⟩⟩;rw[fB,Ni];simp[b]
def adx(s:ByteArray)(w:World)(c:ff w)(d:s.size<=1000):Calls prog 228 #[.string s] w fun e w'=>e=.returned (.slice (some ⟨w.heap.size,0,none⟩) (iL s).length (iL s).length)/\w'=w.alloc (.cells ((iL s).map Value.string).toArray 9):=by
 obtain⟨m,b⟩:=c;have a:=Lib.hid (Tryz.strings_Split s ⟨#[46]⟩ m w (by omega) b (by decide));rw[<-Jm]at a;clear b;go_in;go_wp2_with fail;refine a.out.mono ?_;rintro e w' ⟨rfl,rfl⟩;go_wp2_with fail;go_ret;exact⟨rfl,rfl⟩
def ZB(s:aJ)(w:aB):Calls prog 230 #[.string s] w (RG w (.bool (!ir s))):=by
 go_in;go_wp2_with fail;refine bA (SV s w) fun b a=>?_;go_wp2_with fail;go_ret;exact⟨rfl,a⟩
def F2(s:ByteArray)(w:World)(m:ff w):Calls prog 196 #[.string s] w fun e w'=>e=.returned (.int .i64 (jt s))/\Gr w w':=by
 by_cases j:80<s.size
 .have c:Hid (jt s=5):=by show _=_;unfold jt;rw[if_pos j]
  go_in;go_wp2_with fail;go_ret;exact⟨eJ c.out.symm,Gr.refl w⟩
 .have d:=(Gr.refl w).alloc (.cells ((iL s).map Value.string).toArray 9)
  have i:∀args w,(callFunc 230 args).run prog w=.ok (.enter 230 args) w:=enters_of func230 (by kernel_rfl) rfl;have o:=L1 s;have b:=Lib.hid (XH (iL s) _ (fun p=>!ir p) 230 #[] _ i (fun p _ W _=>ZB p W) (UQ w (iL s) (iL s).length) (by omega));have h:=Lib.hid (adx s w m (by omega));have g:=Lib.hid d;have c:Hid (jt s=if((iL s).any fun p=>!ir p)=true then 12 else if 10<(iL s).length then 9 else 0):=by show _=_;unfold jt;rw[if_neg j]
  clear i d m;generalize(iL s)=l at*
  cases hb:l.any fun p=>!ir p with
  |true=>
   rw[hb]at b;have f:=Lib.hid hb;clear hb;go_in;go_wp2_with fail;refine h.out.mono ?_;rintro e w' ⟨rfl,rfl⟩;go_wp2_with fail;refine b.out.mono ?_;rintro e n ⟨rfl,a⟩;go_wp2_with fail;go_ret;exact⟨eJ (by rw[c.out,f.out];rfl),g.out.trans a⟩
  |false=>
   rw[hb]at b;have f:=Lib.hid hb;clear hb;by_cases k:10<l.length
   .go_in
    go_wp2_with fail;refine h.out.mono ?_;rintro e w' ⟨rfl,rfl⟩;go_wp2_with fail;refine b.out.mono ?_;rintro e n ⟨rfl,a⟩;go_wp2_with fail;go_ret;exact⟨eJ (by rw[c.out,f.out,if_neg (by decide),if_pos k]),g.out.trans a⟩
   .go_in
    go_wp2_with fail;refine h.out.mono ?_;rintro e w' ⟨rfl,rfl⟩;go_wp2_with fail;refine b.out.mono ?_;rintro e n ⟨rfl,a⟩;go_wp2_with fail;go_ret;exact⟨eJ (by rw[c.out,f.out,if_neg (by decide),if_neg k]),g.out.trans a⟩
end Go.Proofs.YtjfaogajmoffoaaGreatDoor
