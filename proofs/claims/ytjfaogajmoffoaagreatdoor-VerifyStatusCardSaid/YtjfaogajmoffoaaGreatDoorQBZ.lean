/- Lemmas for VerifyStatus. -/
import Derived.Test.YtjfaogajmoffoaaGreatDoorQBY
set_option maxRecDepth 100000
set_option maxHeartbeats 16000000
set_option linter.all false
namespace Go.Proofs.YtjfaogajmoffoaaGreatDoor
open Go.RowKit Tryz
def ab9(b c d e f g h i j k a:aJ)(w:aB):(Instr.build 204 #[(0,.string b),(1,.string c),(2,.string d),(3,.string e),(4,.string f),(5,.string g),(6,.string h),(7,.string i),(8,.string j),(9,.string k),(10,.string a)]).run prog w=.ok (.agg #[.string b,.string c,.string d,.string e,.string f,.string g,.string h,.string i,.string j,.string k,.string a]) w:=by kernel_rfl
@[go_sem] def afD (b c d e f g h i j k a:aJ) (w:aB):eG prog 204 #[(0,.string b),(1,.string c),(2,.string d),(3,.string e),(4,.string f),(5,.string g),(6,.string h),(7,.string i),(8,.string j),(9,.string k),(10,.string a)] w=.ok (.value (.agg #[.string b,.string c,.string d,.string e,.string f,.string g,.string h,.string i,.string j,.string k,.string a])) w:=fe (ab9 b c d e f g h i j k a w)
def XG(A:Nat->Act)(R:Nat->aB->Prop)(e:Exit)(a:Act)(w:aB):Prop:=match e with| .normal=>∃x,R x w/\a=A x|_=>False
def zQ{P:Program}{c:Code}{Q':Exit->Act->aB->Prop}{a:Act}{w:aB}{A:Nat->Act}(R:Nat->aB->Prop)(h:c.wp P (XG A R) a w)(f:∀x W,R x W->Q' .normal (A x) W):c.wp P Q' a w:=
 qM (fun e a w h=>by cases e<;>first|exact h.elim|(obtain⟨x,b,d⟩:=h;subst d;exact f x w b)) h
def Kn{w:aB}{b k n:Nat}{cs:bF}(c:hasRow w (aD b k) n=true)(d:rowAt w (aD b k) n=cs)(f:cs.length=n):w.rangeAt b k cs:=fun j v a=>by
 have e:=(nG.1 a).1;exact(Ls c d j (by omega)).trans a
def eM:bP:=[⟨#[110,97,109,101]⟩,⟨#[97,117,116,104,111,114]⟩,⟨#[100,97,116,101]⟩,⟨#[103,114,111,117,112,115]⟩,⟨#[115,117,98,106,101,99,116]⟩,⟨#[114,101,102,101,114,101,110,99,101,115]⟩,⟨#[115,117,112,101,114,115,101,100,101,115]⟩,⟨#[99,111,110,116,114,111,108]⟩,⟨#[100,105,115,116,114,105,98,117,116,105,111,110]⟩,⟨#[107,101,121]⟩,⟨#[108,101,97,102]⟩]
def rZ(W:aB):Prop:=∀i s,eM[i]? =some s->W.cell? (aD 1 i)=some (.string s)
def rZ.lt{W:aB}(h:rZ W):1 <W.heap.size:=ka W _ (h 0 _ rfl)
def rZ.gr{W a:aB}(h:rZ W)(b:Gr W a):rZ a:=fun i s hi=>(b.cell (p:=⟨1,i,none⟩) h.lt).trans (h i s hi)
def xU(a b:aJ):bl (a++b)=bl a++bl b:=by
 show(a++b).data.toList=_;rw[ByteArray.data_append];simp[bl]
def mq(p:aJ×aJ):aM:=bl p.1++[32]++bl p.2++[10]
def EF(a r:aK)(s:aJ):bP:=[eS,bs (lI a),zS,aS,s,eS,eS,eS,eS,FZ r,zS]
def IG:dZ prog 204 =true:=by kernel_rfl
def Mr:prog.cellsOf 204 =11:=by kernel_rfl
def jE(a r:aK)(s:aJ):aM:=(eM.zip (EF a r s)).flatMap mq++[10]
def fX(l:aM):Vector UInt8 32:=⟨(f_ l).toArray,by rw[bQ,pC]⟩
def Eb(l:aM):bC (fX l)=uL (f_ l):=by
 rw[<-uW];rfl
def DO(x:Vector UInt8 32):(prog.info? 26).map (·.size)=some (bC x).toArray.size:=by
 rw[bQ,cC];kernel_rfl
def Ly(l:aM)(w:aB):Calls prog 35 #[aE (bC (fX l))] w (RG w (aE (bC (cF l)))):=by
 rw[Eb];obtain⟨n,g⟩:=ex w.heap.size
 have b:Hid (HB ((w.alloc (aC (uL (f_ l)) 26)).alloc (aC (bC aQ) 22)) n (uL (f_ l)) 26):=(((Gr.refl _).alloc _).block (by simp;omega)).trans (aY _ _ _ g.symm)
 have a:Hid (HB ((w.alloc (aC (uL (f_ l)) 26)).alloc (aC (bC aQ) 22)) (n+1) (bC aQ) 22):=aY _ _ _ (by simp;omega)
 have f:∀w,(Instr.arrayAt 22 (aR n 0 16 32)).run prog w=.ok (bZ n) w:=fun w=>run_arrayAt (w:=w) 22 5 16 _ 16 32 underlying22 (aU _);have k:=aP b 0 16 (by simp[dJ,pC]);have j:=(bJ b 0 16 (by simp[dJ,pC])).trans (ME l);have m:=aP a 0 16 (by simp[aO]);have o:=bE a 0 16;have p:=aI a;have h:=aO (cF l);have i:=cZ (cF l);go_in;go_wp2_with fail;have d:Hid (HB ((w.alloc (aC (uL (f_ l)) 26)).alloc (aC (bC (cF l)) 22)) (n+1) (bC (cF l)) 22):=aY _ _ _ (by simp;omega)
 have c:Hid (Gr w ((w.alloc (aC (uL (f_ l)) 26)).alloc (aC (bC (cF l)) 22))):=((Gr.refl w).alloc _).alloc _;refine bI (dY rfl _ _ (n+1) _ _ _ _ rfl d underlying22 rfl (rq _)) rfl ?_;exact⟨rfl,c⟩
structure Bs(w:aB):Prop where
 e:ff w
 a:iD w
 wd:rZ w
 k:Kt w
 m:4 <w.heap.size
def Bs.gr{w w':aB}(h:Bs w)(b:Gr w w'):Bs w':=by
 obtain⟨m,c⟩:=h.e;exact⟨⟨m,(b.cell (p:=⟨4,0,none⟩) h.m).trans c⟩,h.a.gr b,h.wd.gr b,h.k.gr b,dQ h.m b.size⟩
structure ol(w:aB)(g:Nat):Prop where
 lt:g<w.heap.size
 c:w.cell? (aD g 0)=some (.string aS)
def ol.gr{w w':aB}{g:Nat}(h:ol w g)(a:Gr w w'):ol w' g:=⟨dQ h.lt a.size,(a.cell (p:=⟨g,0,none⟩) h.lt).trans h.c⟩
structure Ok(a r:aK)(s:aJ)(c:Nat):Prop where
 p:lY (bl s)=true
 q:gJ s=true
 z:s.size<=200
 c:1<=c
 t:(mO 1 r).length=24
 f:(jE a r s).length<=100000
end Go.Proofs.YtjfaogajmoffoaaGreatDoor
