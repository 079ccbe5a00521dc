/- Lemmas for VerifyStatus. -/
import Derived.Great.FillDense
import Derived.Test.YtjfaogajmoffoaaGreatDoorQBZ
set_option maxRecDepth 100000
set_option maxHeartbeats 16000000
set_option linter.all false
namespace Go.Proofs.YtjfaogajmoffoaaGreatDoor
open Go.RowKit Tryz
def J9(l:bF)(i:Nat):Value:=l.getD i undef
def gi(l:bF)(n:Nat)(h:l.length=n):l=(List.range n).map (J9 l):=by
 apply FJ
 .simp[h]
 .intro i a b
  simp[J9,a]
def ef(a:aK)(n:Int):bF:=bC a++[.int .i64 n]
def pj(a:aK)(n:Int):(ef a n).length=17:=by unfold ef;rw[bV,aO];rfl
def l_:bF:=.int .i64 0::(aN 0 aQ++(.int .i64 0::bC bM))
def jH:bU:=⟨eS,aQ,0,.slice none 0 0,eS,.slice none 0 0,bM,eS,eS,0,0,aQ,0,eS⟩
def gA(k:bU)(y:Vector UInt8 32)(b:Bool):bF:=aX k++(bC y++[.bool b])
def dE(k:bU)(s:bF):bF:=aX k++s
def Xy(a b:Option Nat)(w:aB):(Instr.build 103 #[(0,.map a),(1,.map b)]).run prog w=.ok (.agg #[.map a,.map b]) w:=by kernel_rfl
def OZ(f:Nat->Value)(n:Int)(w:aB):(Instr.build 130 #[(0,aE ((List.range 16).map f)),(1,.int .i64 n)]).run prog w=.ok (aE ((List.range 16).map f++[Value.int .i64 n])) w:=by kernel_rfl
def abW(w:aB):(Instr.build 181 #[]).run prog w=.ok (aE l_) w:=by kernel_rfl
def aaL(w:aB):(Instr.build 79 #[]).run prog w=.ok (aE (gA jH bM false)) w:=by kernel_rfl
def Qc(f h:Nat->Value)(b:Bool)(w:aB):(Instr.build 79 #[(0,aE ((List.range 75).map f)),(1,aE ((List.range 32).map h)),(2,.bool b)]).run prog w=.ok (aE ((List.range 75).map f++((List.range 32).map h++[Value.bool b]))) w:=by kernel_rfl
def Rs(A B:bF)(Z:Array Value)(p:Nat->Option (Nat×Nat))(h:p 0=some (0,A.length))(i:p 1=some (A.length,B.length))(z:Z.size=A.length+B.length):Instr.fill p Z [(0,aE A),(1,aE B)]=some (A++B).toArray:=by
 obtain⟨a,e⟩:=Great.foldl_set 0 A 0 Z
 obtain⟨_,f⟩:=Great.foldl_set A.length B 0 ((A.zipIdx 0).foldl (fun cs (x:Value×Nat)=>cs.setIfInBounds (0+x.2) x.1) Z)
 unfold Instr.fill;simp only[h,Value.cells,List.size_toArray];rw[if_neg (by simp;omega)];unfold Instr.fill;simp only[i,Value.cells,List.size_toArray,<-Array.foldl_toList,Array.toList_zipIdx];rw[if_neg (by have:=a;simp at this|-;omega)];unfold Instr.fill;congr 1;apply Array.ext_getElem?;intro k;rw[f k,e k,a,z];simp only[List.getElem?_toArray,List.getElem?_append];by_cases c:k<A.length
 .rw[if_neg (by omega),if_pos (by omega),if_pos c];simp
 .by_cases d:k<A.length+B.length
  .rw[if_pos (by omega),if_neg c];simp
  .rw[if_neg (by omega),if_neg (by omega),if_neg c,List.getElem?_eq_none (by omega),Array.getElem?_eq_none (by omega)]
def Ro(A B:bF)(a:A.length=75)(b:B.length=562)(w:aB):(Instr.build 49 #[(0,aE A),(1,aE B)]).run prog w=.ok (aE (A++B)) w:=by
 refine run_build _ _ _ _ ?_;have u:(prog.underlying 49).bind (fun d=>match d with|.struct f=>f.toList.mapM (fun f=>(prog.info? f.type).map fun i=>(f.offset,i.size))|_=>none)=some [(0,75),(75,562)]:=by kernel_rfl
 have z:((prog.info? 49).bind (·.zero)).map (·.cells.size)=some 637:=by kernel_rfl
 unfold Program.built;cases h:prog.info? 49 with
 |none=>simp[h]at z
 |some i=>
  cases k:prog.underlying 49 with
  |none=>simp[k]at u
  |some d=>
   cases d<;>simp[k]at u
   cases q:i.zero with
   |none=>simp[h,q]at z
   |some Z=>
    simp[h,q]at z;simp only[q,u];exact Rs A B _ _ (by rw[a];rfl) (by rw[a,b];rfl) (by rw[z,a,b])
def RM(w:aB):(Instr.build 55 #[(1,.int .i64 1)]).run prog w=.ok (aE (fL (Vector.replicate 32 0) 1)) w:=by kernel_rfl
def ac2(f h:Nat->Value)(a:dB)(n c:Nat)(s:aJ)(w:aB):(Instr.build 46 #[(1,aE ((List.range 16).map f)),(3,.slice a n c),(4,.string s),(10,aE ((List.range 17).map h))]).run prog w=
  .ok (aE ([Value.string eS]++((List.range 16).map f++([Value.int .i64 0,.slice a n c,.string s,.slice none 0 0]++(bC bM++([Value.string eS,.string eS,.int .i64 0]++((List.range 17).map h++[Value.int .i64 0,.string eS]))))))) w:=by kernel_rfl
@[go_sem] def afO (a b:Option Nat) (w:aB):eG prog 103 #[(0,.map a),(1,.map b)] w=.ok (.value (.agg #[.map a,.map b])) w:=fe (Xy a b w)
@[go_sem] def ahG (a:aK) (n:Int) (w:aB):eG prog 130 #[(0,aE (bC a)),(1,.int .i64 n)] w=.ok (.value (aE (ef a n))) w:=fe (by
 unfold ef;rw[gi (bC a) 16 (aO a)];exact OZ _ n w)
@[go_sem] def agL (w:aB):eG prog 181 #[] w=.ok (.value (aE l_)) w:=fe (abW w)
@[go_sem] def ae' (w:aB):eG prog 79 #[] w=.ok (.value (aE (gA jH bM false))) w:=fe (aaL w)
@[go_sem] def kEl (k:bU) (y:Vector UInt8 32) (b:Bool) (w:aB):eG prog 79 #[(0,aE (aX k)),(1,aE (bC y)),(2,.bool b)] w=.ok (.value (aE (gA k y b))) w:=fe (by
 unfold gA;rw[gi (aX k) 75 (dO k),gi (bC y) 32 (cC y)];exact Qc _ _ b w)
@[go_sem] def LS (k:bU) (a:Int) (e:Nat->aK) (p:Value) (w:aB):eG prog 49 #[(0,aE (aX k)),(1,aE (aW a e p))] w=.ok (.value (aE (dE k (aW a e p)))) w:=fe (by
 unfold dE;exact Ro _ _ (dO k) (d_ a e p) w)
@[go_sem] def WY (w:aB):eG prog 55 #[(1,.int .i64 1)] w=.ok (.value (aE (fL iU 1))) w:=fe (RM w)
def Pc(a r:aK)(s:aJ)(g c:Nat)(w:aB):eG prog 46 #[(1,aE (bC a)),(3,aR g 0 1 c),(4,.string s),(10,aE (aN 1 r))] w=.ok (.value (aE (aX (gh a r s g c)))) w:=fe (by
 have e:aX (gh a r s g c)=[Value.string eS]++(bC a++([Value.int .i64 0,aR g 0 1 c,.string s,.slice none 0 0]++(bC bM++([Value.string eS,.string eS,.int .i64 0]++(aN 1 r++[Value.int .i64 0,.string eS]))))):=rfl;rw[e,gi (bC a) 16 (aO a),gi (aN 1 r) 17 (bG 1 r)];exact ac2 _ _ _ _ _ s w)
@[go_sem] def agY:dZ prog 49 =true:=by kernel_rfl
@[go_sem] def agd:dZ prog 79 =true:=by kernel_rfl
@[go_sem] def ahq:dZ prog 181 =true:=by kernel_rfl
@[go_sem] def afK:dZ prog 130 =true:=by kernel_rfl
@[go_sem] def ahv:dZ prog 132 =true:=by kernel_rfl
@[go_sem] def agb:dZ prog 103 =true:=by kernel_rfl
@[go_sem] def afw:prog.cellsOf 49 =637:=by kernel_rfl
@[go_sem] def af2:prog.cellsOf 79 =108:=by kernel_rfl
@[go_sem] def ahU:prog.cellsOf 181 =51:=by kernel_rfl
@[go_sem] def NC:prog.cellsOf 130 =17:=by kernel_rfl
@[go_sem] def af7:prog.cellsOf 103 =2:=by kernel_rfl
@[go_sem ↓ high] def aes (w:aB):Sem.run prog (zeroValue 44) w=.ok (aE (aN 0 aQ)) w:=by kernel_rfl
@[go_sem ↓ high] def afl (w:aB):Sem.run prog (zeroValue 181) w=.ok (aE l_) w:=by kernel_rfl
@[go_sem ↓ high] def afU (w:aB):Sem.run prog (zeroValue 79) w=.ok (aE (gA jH bM false)) w:=by kernel_rfl
@[go_sem ↓ high] def afj (w:aB):Sem.run prog (zeroValue 46) w=.ok (aE (aX jH)) w:=by kernel_rfl
@[go_sem ↓ high] def aew (w:aB):Sem.run prog (zeroValue 55) w=.ok (aE (fL (Vector.replicate 32 0) 0)) w:=by kernel_rfl
def AK:l_.length=51:=by decide+kernel
def qL(k:bU)(y:Vector UInt8 32)(b:Bool):(gA k y b).length=108:=by unfold gA;rw[bV,bV,dO,cC];rfl
def PP(k:bU)(a:Int)(e:Nat->aK)(p:Value):(dE k (aW a e p)).length=637:=by unfold dE;rw[bV,dO,d_]
structure Ez(W:aB)(x:Nat):Prop where
 h:∃b1 b2,W.heap[x]? =some (.cells #[.map (some b1),.map (some b2)] 103)/\W.heap[b2]? =some (.map #[] 0)
def Ez.gr{W a:aB}{x:Nat}(h:Ez W x)(d:Gr W a):Ez a x:=by
 obtain⟨e,f,b,c⟩:=h.h;have g:=(bY.1 b).1;have i:=(bY.1 c).1;exact⟨e,f,(d.block g).trans b,(d.block i).trans c⟩
def dL{W:aB}{b:Nat}{l:bF}{t:TypeId}(N:Nat)(a:l.length=N)(h:HB W b l t):hasRow W (aD b 0) N=true/\rowAt W (aD b 0) N=l/\b<W.heap.size:=
 ⟨aP h 0 N (by omega),(bJ h 0 N (by omega)).trans (b_ _ _ a),aI h⟩
def AO(k:bU)(a:cN (aX k)=true)(y:Vector UInt8 32)(b:Bool):cN (gA k y b)=true:=by
 unfold gA;simp only[iI,a,gE];rfl
def En(k:bU)(l:bF):dD (dE k l) 0 75=aX k:=gP _ _ _ (dO k)
def Gg(k:bU)(l:bF)(h:l.length=562):dD (dE k l) 75 562=l:=by
 unfold dE;rw[eQ (aX k) l 75 562 75 (dO k) (aU _),b_ _ _ h]
structure ZJ(W:aB)(n:Nat)(k:bU)(l:bF):Prop where
 h0:hasRow W (aD n 0) 75=true
 r0:rowAt W (aD n 0) 75=aX k
 h1:hasRow W (aD n 75) 562=true
 r1:rowAt W (aD n 75) 562=l
 z:n<W.heap.size
def zM{W:aB}{n:Nat}{k:bU}{l:bF}(a:l.length=562)(h:HB W n (dE k l) 49):ZJ W n k l:=by
 have b:(dE k l).length=637:=by unfold dE;rw[bV,dO,a]
 exact⟨aP h 0 75 (by omega),(bJ h 0 75 (by omega)).trans (En k l),aP h 75 562 (by omega),(bJ h 75 562 (by omega)).trans (Gg k l a),aI h⟩
def NI(k:bU)(y:Vector UInt8 32)(b:Bool):(prog.info? 79).map (fun x=>x.size)=some (gA k y b).toArray.size:=by
 rw[bQ,qL];kernel_rfl
def EU:cN (aX jH)=true:=by decide+kernel
end Go.Proofs.YtjfaogajmoffoaaGreatDoor
