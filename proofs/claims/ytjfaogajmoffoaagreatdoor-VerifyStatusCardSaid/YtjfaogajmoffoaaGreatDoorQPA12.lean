/- Lemmas for VerifyStatus. -/
import Derived.Test.YtjfaogajmoffoaaGreatDoorQPA11
set_option maxRecDepth 100000
set_option maxHeartbeats 16000000
set_option linter.all false
namespace Go.Proofs.YtjfaogajmoffoaaGreatDoor
open Go.RowKit Tryz
section
def zq(l:aM)(n:Nat):aM:=l.take n++List.replicate (16-n) 0
def Dk(l:aM)(n:Nat)(a:l.length=16)(h:n<=16):(zq l n).length=16:=by unfold zq;rw[bV,dP,oY];omega
def Cg(l:aM)(a:l.length=16):zq l 16=l:=by unfold zq;rw[eq (by omega)];simp
def Ds(l:aM)(n:Nat)(c:l.length=16)(h:n<16)(x:UInt8)(b:l[n]? =some x):(zq l n).set n x=zq l (n+1):=by
 have a:l[n]'(by omega)=x:=by
  rw[cO (by omega)]at b;exact iP b
 unfold zq;rw[pu _ _ (by rw[dP];omega),dP,show n-min n l.length=0 by omega,show 16-n=(16-(n+1))+1 by omega,Fc,eZ,eF (by omega),a,fl];rfl
def BH(l:aM)(j:Nat)(h:j<16):(h' l)[j]? =some ((pX l)[j]'(by omega)):=by
 unfold h';rw[mi,aG h,<-Bn l,qz,qB (by omega)]
def wF{m:Nat}{W:aB}{b:Nat}{x:Vector UInt8 m}{t:TypeId}(h:HB W b (bC x) t) (j:Nat) (a:j<m):W.cell? (aD b j)=some (.int .u8 (x[j].toNat:Int)):=by
 rw[bH h j];show(x.toList.map _)[j]? =_
 rw[fo,qz,qB a];rfl
@[local go_sem ↓ high] def aeZ (w:aB):Sem.run prog (zeroValue 25) w=.ok (aE (bC bM)) w:=by kernel_rfl
@[go_sem ↓ high] def ahW (w:aB):Sem.run prog (zeroValue 229) w=.ok (aE (uL eO)) w:=by kernel_rfl
@[go_sem] def ahS:dZ prog 229 =true:=by kernel_rfl
@[go_sem] def afc:prog.cellsOf 229 =16:=by kernel_rfl
def Ma(v:Value)(l:aM)(w:aB)(f:l.length<=800000)(O:gC w v l):Calls prog 176 #[v] w (RG w (aE (bC (cF l)))):=by
 have j:Hid (bC (cF l)=uL (h' l)):=xE l;rw[j.out];obtain⟨n,N⟩:=ex w.heap.size;have J:=aA N;obtain⟨K,E,x,r⟩:=gO N (aC (uL eO) 229)
 have R:=aA (A6 v l K f (O.gr x));have z:=aA (BH l);have c:Hid ((h' l).length=16):=rF l;have B:=aA (Ds (h' l));generalize h' l=D at*
 generalize pX l=S at*
 have s1:=cC S;have s2:=gE S;go_in;go_wp2_with fail;try rw[E]
 replace E:=aA E;refine bA R fun U C=>?_;obtain⟨m,M⟩:=ex U.heap.size;obtain⟨L,a,-,G,-⟩:=gT M (aC (bC S) 25) (aC (uL eO) 229);have u:Hid (Gr K L):=a▸(C.alloc _).alloc _
 have H:Hid (HB L (m+1) (uL (zq D 0)) 229):=by
  show _=_;rw[<-a,show zq D 0=eO from rfl];exact aY _ _ _ (by simp;omega)
 have h:Hid (n<m):=M▸dQ (aI r) C.size
 have I:=aA ((u.block (aI r)).trans r);have F:=aA (x.trans u);go_wp2_with fail;try rw[a]
 replace a:=aA a
 go_loopw [5] (fun i wr=>∃k:Nat,k<=16/\i=.int .i64 k/\Hid (HB wr n (uL eO) 229)/\Hid (HB wr m (bC S) 25)/\Hid (HB wr (m+1) (uL (zq D k)) 229)/\Hid (Gr w wr)) (fun i _=>16-(intOf i).toNat)
 .exact⟨0,bW _,rfl,I,G,H,F⟩
 .
  obtain⟨k,Y,rfl,g,s,d,t⟩:=hrel;by_cases q:k<16
  .have T:(k:Int)<16:=by omega
   have q2:=nn k
   have q3:(k:Int)<32:=by omega
   have p:=aA (B k c q _ (z k q));have V:=wF s k (by omega);have W:=ee d k;obtain⟨P,X⟩:∃P:UInt8,wr.cell? ⟨m+1,k,none⟩=some (.int .u8 (P.toNat:Int)):=⟨_,(bH d.out k).trans (xL _ k (by rw[Dk _ _ c.out (by omega)];omega))⟩;generalize S[k]'(by omega)=y at*
   have HW:Hid (HB (wr.setCell (aD (m+1) k) (cU y)) (m+1) (uL (zq D (k+1))) 229):=by
    show _=_;rw[fC wr (m+1) k _ _ _ d.out,<-p.out,<-xZ];simp
   have HX:=aA ((cG wr (aD (m+1) k) m (cU y) (by show m≠m+1;omega)).trans s);have HY:=aA ((cG wr (aD (m+1) k) n (cU y) (by have:=h.out;show n≠m+1;omega)).trans g);have HG1:=aA (t.setOwn (b:=m+1) (o:=k) (by have:=J.out;have:=h.out;omega) (cU y));unfold cU at HW HX HY HG1;go_wp2_with fail;go_roundw
   .exact⟨k+1,by omega,by go_num,HY,HX,HW,HG1⟩
   .simp[intOf];omega
  .have T:¬(k:Int)<16:=by omega
   obtain rfl:k=16:=by omega
   have f:(uL D).length=16:=by rw[dJ];exact c
   rw[Cg D c.out]at d;have r0:=aP d 0 16 (by simp[f]);have Z:rowAt wr (aD (m+1) 0) 16=uL D:=(bJ d 0 16 (by simp[f])).trans (b_ _ _ f);have r1:=aP g 0 16 (by simp[dJ,jf]);have r2:=bE g 0 16;have r4:=mY D;have Q:Hid (HB (wr.setCells n 0 (uL D)) n (uL D) 229):=bO g (by rw[f,dJ,jf])
   have HG1:=aA (t.setsOwn (b:=n) (by have:=J.out;omega) (uL D) 0);go_wp2_with fail;refine bI (dY rfl _ _ n _ _ _ _ rfl Q underlying229 rfl (by rw[bQ,f];kernel_rfl)) rfl ?_;exact⟨rfl,HG1⟩
@[go_sem ↓ high] def afh (w:aB):Sem.run prog (zeroValue 275) w=.ok (aE (uL eO)) w:=by kernel_rfl
@[go_sem] def ahN:dZ prog 275 =true:=by kernel_rfl
@[go_sem] def ae8:prog.cellsOf 275 =16:=by kernel_rfl
def K'(v:Value)(l:aM)(w:aB)(f:l.length<=800000)(O:gC w v l):Calls prog 206 #[v] w (RG w (aE (bC (cF l)))):=by
 have j:Hid (bC (cF l)=uL (h' l)):=xE l;rw[j.out];obtain⟨n,N⟩:=ex w.heap.size;have J:=aA N;obtain⟨K,E,x,r⟩:=gO N (aC (uL eO) 275)
 have R:=aA (A6 v l K f (O.gr x));have z:=aA (BH l);have c:Hid ((h' l).length=16):=rF l;have B:=aA (Ds (h' l));generalize h' l=D at*
 generalize pX l=S at*
 have s1:=cC S;have s2:=gE S;go_in;go_wp2_with fail;try rw[E]
 replace E:=aA E;refine bA R fun U C=>?_;obtain⟨m,M⟩:=ex U.heap.size;obtain⟨L,a,-,G,-⟩:=gT M (aC (bC S) 25) (aC (uL eO) 275);have u:Hid (Gr K L):=a▸(C.alloc _).alloc _
 have H:Hid (HB L (m+1) (uL (zq D 0)) 275):=by
  show _=_;rw[<-a,show zq D 0=eO from rfl];exact aY _ _ _ (by simp;omega)
 have h:Hid (n<m):=M▸dQ (aI r) C.size
 have I:=aA ((u.block (aI r)).trans r);have F:=aA (x.trans u);go_wp2_with fail;try rw[a]
 replace a:=aA a
 go_loopw [5] (fun i wr=>∃k:Nat,k<=16/\i=.int .i64 k/\Hid (HB wr n (uL eO) 275)/\Hid (HB wr m (bC S) 25)/\Hid (HB wr (m+1) (uL (zq D k)) 275)/\Hid (Gr w wr)) (fun i _=>16-(intOf i).toNat)
 .exact⟨0,bW _,rfl,I,G,H,F⟩
 .
  obtain⟨k,Y,rfl,g,s,d,t⟩:=hrel;by_cases q:k<16
  .have T:(k:Int)<16:=by omega
   have q2:=nn k
   have q3:(k:Int)<32:=by omega
   have p:=aA (B k c q _ (z k q));have V:=wF s k (by omega);have W:=ee d k;obtain⟨P,X⟩:∃P:UInt8,wr.cell? ⟨m+1,k,none⟩=some (.int .u8 (P.toNat:Int)):=⟨_,(bH d.out k).trans (xL _ k (by rw[Dk _ _ c.out (by omega)];omega))⟩;generalize S[k]'(by omega)=y at*
   have HW:Hid (HB (wr.setCell (aD (m+1) k) (cU y)) (m+1) (uL (zq D (k+1))) 275):=by
    show _=_;rw[fC wr (m+1) k _ _ _ d.out,<-p.out,<-xZ];simp
   have HX:=aA ((cG wr (aD (m+1) k) m (cU y) (by show m≠m+1;omega)).trans s);have HY:=aA ((cG wr (aD (m+1) k) n (cU y) (by have:=h.out;show n≠m+1;omega)).trans g);have HG1:=aA (t.setOwn (b:=m+1) (o:=k) (by have:=J.out;have:=h.out;omega) (cU y));unfold cU at HW HX HY HG1;go_wp2_with fail;go_roundw
   .exact⟨k+1,by omega,by go_num,HY,HX,HW,HG1⟩
   .simp[intOf];omega
  .have T:¬(k:Int)<16:=by omega
   obtain rfl:k=16:=by omega
   have f:(uL D).length=16:=by rw[dJ];exact c
   rw[Cg D c.out]at d;have r0:=aP d 0 16 (by simp[f]);have Z:rowAt wr (aD (m+1) 0) 16=uL D:=(bJ d 0 16 (by simp[f])).trans (b_ _ _ f);have r1:=aP g 0 16 (by simp[dJ,jf]);have r2:=bE g 0 16;have r4:=mY D;have Q:Hid (HB (wr.setCells n 0 (uL D)) n (uL D) 275):=bO g (by rw[f,dJ,jf])
   have HG1:=aA (t.setsOwn (b:=n) (by have:=J.out;omega) (uL D) 0);go_wp2_with fail;refine bI (dY rfl _ _ n _ _ _ _ rfl Q underlying275 rfl (by rw[bQ,f];kernel_rfl)) rfl ?_;exact⟨rfl,HG1⟩
def adt{e:Array Oper}{o:Oper}{a:Act}{w:aB}{K:Act->aB->Prop}{Q:Exit->Act->aB->Prop}{E:Prop}
  (p:o.guard=none) (d:Nat) (n:o.dst=some d) (s x:Operand) (f:o.op=Op.call { callee:=Callee.builtin Builtin.copy,args:=#[s,x],argTypes:=#[94,94] })
  (b k dl dc g oo sl sc:Nat) (hs:a.eval s=aR b k dl dc) (hx:a.eval x=aR g oo sl sc)
  (l:aM) (hl:l.length=Nat.min sl dl) (hsrc:cS w g oo l) (hr:hasRow w (aD b k) l.length=true) (hf:gz w (aD b k) l.length=true)
  (hK:K (a.put (some d) (.int .i64 (l.length:Int))) (w.setCells b k (uL l))):
  if Region.wanted o (yielded e a.tmps)=true then Oper.wp prog o a w K Q else E:=by
 have r:Region.wanted o (yielded e a.tmps)=true:=by simp[Region.wanted,p]
 rw[aG r];obtain⟨i,z,h,u,m,B,C⟩:=sr
 have c:=run_copy_cells (P:=prog) w 94 94 o.type 5 b k dl dc (aD g oo) sl sc (uL l) underlying94 (by rw[h];simp[m]) (by rw[dJ,hl])
  (fun j v hj=>by
   unfold uL at hj;rw[fo]at hj;obtain⟨y,t,rfl⟩:=o4.1 hj;rw[fO];exact hsrc.2 j y t)
  (fun j hj=>by rw[dJ]at hj;have:=kr.1 hr j hj;rwa[fO]at this)
  (fun j hj=>by rw[dJ]at hj;have:=tJ.1 hf j hj;rwa[fO]at this)
  (fun v q=>by have:=gY.1 (mY l) v q;simpa using this)
 rw[dJ]at c;unfold Oper.wp;simp[execOp,f,resolve,invoke,builtin,hs,hx,c,Result.andThen];show K (a.put o.dst _) _;rw[n];exact hK
end
def ab1(p:Nat)(v:Value)(R:aB->Prop)(e:Exit)(a:Act)(w:aB):Prop:=match e with| .normal=>a.defers=[]/\a.tmps.getD p undef=v/\R w|_=>False
def aba{P:Program}{c:Code}{Q':Exit->Act->aB->Prop}{a:Act}{w:aB}(p:Nat)(v:Value)(R:aB->Prop)(h:c.wp P (ab1 p v R) a w)(b:∀a W,a.defers=[]->a.tmps.getD p undef=v->R W->Q' .normal a W):c.wp P Q' a w:=
 qM (fun e a w h=>by cases e<;>first|exact h.elim|exact b a w h.1 h.2.1 h.2.2) h
def JI(b:UInt8)(a:Nat)(c:a<256):gS b a=[b,0,0,0,UInt8.ofNat a]:=by
 unfold gS wj;rw[sk (show a<16777216 by omega),sk (show a<65536 by omega),sk c];rfl
def MJ(c:UInt8)(a:Nat)(f:a<256)(x:Int)(p:(c.toNat:Int)=x)(w:aB):Calls prog 205 #[.int .u8 x,.int .i64 (a:Int)] w fun e w'=>e=.returned (aR (w.heap.size) 0 5 5)/\aZ w' w.heap.size (aR (w.heap.size) 0 5 5) (gS c a)/\Gr w w':=by
 subst p;have i:=aA (JI c a f);have o:=o7 a;generalize gS c a=l at*
 generalize UInt8.ofNat a=b at*
 have j:(a:Int)/16777216=0:=by omega
 have k:(a:Int)/65536=0:=by omega
 have m:(a:Int)/256=0:=by omega
 have n:(a:Int)%256=(a:Int):=by omega
 have q:(a:Int).tdiv 16777216=0:=by rw[uZ (by omega)];exact j
 have r:(a:Int).tdiv 65536=0:=by rw[uZ (by omega)];exact k
 have s:(a:Int).tdiv 256=0:=by rw[uZ (by omega)];exact m
 have t:(a:Int).tmod 256=(a:Int):=by rw[Bj (by omega)];exact n
 have d:(a:Int)=(b.toNat:Int):=by rw[<-o,gg];omega
 have g:=aA d;clear f d;go_in;go_wp2_with fail;go_ret;refine⟨rfl,?_,(Gr.refl w).alloc _⟩;rw[i.out];have h:=aZ.made (l:=[c,0,0,0,b]) (cM w (aC ([c,0,0,0,b].map cU) 5)) (aU _) (by simp);first|exact h|(simp only[g.out];exact h)
def acJ(a d s:Nat)(hl:a<256)(v:aK)(w:aB):Calls prog 240 #[.int .i64 (a:Int),.int .i64 (d:Int),.int .i64 (s:Int),aE (bC v)] w (RG w (aE (bC (oN a d s v)))):=by
 obtain⟨n,N⟩:=ex w.heap.size;have HN:=aA N;obtain⟨c,H⟩:=ex (UInt8.ofNat d);have e1:IntKind.u8.wrap (d:Int)=(c.toNat:Int):=by rw[<-H];exact o7 d
 obtain⟨b,G⟩:=ex (UInt8.ofNat s);have e2:IntKind.u8.wrap (s:Int)=(b.toNat:Int):=by rw[<-G];exact o7 s
 have HF:=aA (show cF (gS 3 a++[c,b]++v.toList)=oN a d s v by rw[<-H,<-G];rfl)
 obtain⟨f,z,HG,H0,V⟩:=gT N (aC (bC v) 275) (aC (uL eO) 275)
 have j:=aA (show f.heap.size=n+2 by rw[<-z];simp;omega)
 have D:Hid (∀W,Gr f W->Calls prog 205 #[.int .u8 3,.int .i64 (a:Int)] W fun e w'=>e=.returned (aR (W.heap.size) 0 5 5)/\aZ w' (n+2) (aR (W.heap.size) 0 5 5) (gS 3 a)/\Gr W w'):=fun W q=>(MJ 3 a hl 3 rfl W).mono fun e w' ⟨o,p,h3⟩=>⟨o,p.base (by have:=q.size;have:=j.out;omega),h3⟩;have X:Hid (∀W,Gr f W->aZ (W.alloc (.cells #[.int .u8 (c.toNat:Int),.int .u8 (b.toNat:Int)] 5)) (n+2) (aR (W.heap.size) 0 2 2) [c,b]):=fun W q=>aZ.made (l:=[c,b]) (cM W _) (by have:=q.size;have:=j.out;omega) (by simp);have C:Hid (∀W,Gr f W->bX W (aR n 0 16 16) 1 (iV v.toList)):=fun W q=>((cS.vec H0).gr q).sl 16 16 (by simp) (aU _);have i:=aA (qJ 3 a);generalize oN a d s v=y at*
 generalize gS 3 a=Q at*
 have Z:=aO y;have c2:=cZ y;have S:Hid (Gr f f.drew):=(Gr.refl f).drew;have T:Hid (Gr f (f.alloc (.cells #[.int .u8 (c.toNat:Int),.int .u8 (b.toNat:Int)] 5)).drew):=((Gr.refl f).alloc _).drew;have E:Hid (aZ (f.alloc (.cells #[.int .u8 (c.toNat:Int),.int .u8 (b.toNat:Int)] 5)).drew (n+2) (aR (f.heap.size) 0 2 2) [c,b]):=(X f (Gr.refl f)).gr (Gr.refl _).drew;have m:Hid ((f.alloc (.cells #[.int .u8 (c.toNat:Int),.int .u8 (b.toNat:Int)] 5)).drew.heap.size=f.heap.size+1):=by show(f.alloc (.cells #[.int .u8 (c.toNat:Int),.int .u8 (b.toNat:Int)] 5)).heap.size=_;simp
 go_in;go_wp2_with fail;try rw[z]
 replace z:=aA z;apply aba 8 (bZ (n+1)) (fun Y=>Hid (HB Y (n+1) (bC y) 275)/\Hid (Gr w Y))
 case h=>
  go_region_law (first
   |(go_simp;go_at_call 205;refine(D _ (by first|exact S|exact T)).mono ?_;rintro e R ⟨rfl,g,r⟩;(try (rw[m.out]at g));have u:=aA ((show Gr f _ by first|exact S|exact T).trans r))
   |(refine wa rfl 16 rfl (.tmp 10) (.tmp 15) rfl (n+2) _ Q rfl (by first|exact g|exact g.gr ((Gr.refl R).alloc _)) _ [c,b] rfl (by first|exact X R u|exact E.gr r) 7 (by rw[i.out];rfl) (aH rfl) (by have o:=u.size;have p:=j.out;first|omega|(simp;omega)) ?_;intro a3 n3 w3 t J;have B:Gr f w3:=(show Gr f _ by first|exact u|exact u.alloc _).grown J (fun k M=>by have o:=(fA (show aZ _ (n+2) _ Q by first|exact g|exact g.gr ((Gr.refl R).alloc _)) k M).1;have p:=j.out;omega))
   |(refine Lo rfl 18 rfl (.tmp 16) (.tmp 17) rfl (n+2) (.slice a3 7 n3) (Q++[c,b]) rfl t (aR n 0 16 16) v.toList rfl (C w3 B) 23 (by simp[i.out]) (aH rfl) (by have o:=B.size;have p:=j.out;omega) ?_;intro a5 n5 w5 O K;have G5:Gr f w5:=B.grown K (fun k M=>by have o:=(fA t k M).1;have p:=j.out;omega))
   |(go_simp;go_at_call 206;refine(K' (.slice a5 23 n5) _ w5 (by simp[i.out]) O.bytG).mono ?_;rw[HF.out];rintro e w6 ⟨rfl,L⟩;have U:=aA (G5.trans L);have x:=aA ((U.block (aI V)).trans V);have z0:=aP x 0 16 (by simp[dJ,jf]);have z1:=bE x 0 16;have z2:=aI x))
  all_goals exact⟨rfl,rfl,bO x (by rw[dJ,jf,Z]),(HG.trans U).setsOwn (b:=n+1) (by have:=HN.out;omega) (bC y) 0⟩
 rintro a1 W1 I P ⟨hE,F⟩;go_wp2_with fail;refine bI (dY rfl _ _ (n+1) _ _ _ _ P hE underlying275 rfl (by rw[bQ,Z];kernel_rfl)) I ?_;exact⟨rfl,F⟩
def RW(c a f t:Nat)(K:c<256)(C:f<=t)(ht:t<=15)(v:aK)(w:aB):Calls prog 208 #[.int .i64 (c:Int),.int .i64 (a:Int),.int .i64 (f:Int),.int .i64 (t:Int),aE (bC v)] w (RG w (aE (bC (fk c a f (t-f) v)))):=by
 obtain⟨n,o⟩:=ex w.heap.size;have I:=aA o;obtain⟨U,m,H,-,G⟩:=gT o (aC (bC v) 275) (aC (uL eO) 275);have F:Hid (HB U n (bC (fk c a f 0 v)) 275):=by
  show _=_;rw[<-m];exact(((Gr.refl _).alloc _).block (by simp;omega)).trans (aY _ _ _ o.symm)
 have u:=aA (fun s (x:aK) W=>acJ c a s K x W);go_in;go_wp2_with fail;try rw[m]
 replace m:=aA m
 go_loopw [11] (fun s wr=>∃k:Nat,f+k<=t/\s=.int .i64 ((f+k:Nat):Int)/\Hid (HB wr n (bC (fk c a f k v)) 275)/\Hid (HB wr (n+1) (uL eO) 275)/\Hid (Gr w wr)) (fun s _=>t-(intOf s).toNat)
 .exact⟨0,C,rfl,F,G,H⟩
 .
  obtain⟨k,hk,rfl,i,d,B⟩:=hrel;obtain⟨s,L⟩:=ex (f+k);have q:=aA (show oN c a s (fk c a f k v)=fk c a f (k+1) v by rw[<-L];rfl)
  have r:Hid (s=t->fk c a f k v=fk c a f (t-f) v):=fun h=>by rw[show k=t-f by omega]
  rw[L]at hk|-
  generalize D:fk c a f (k+1) v=y at*
  replace D:=aA D;generalize fk c a f k v=x at*
  by_cases a1:s<t
  .have q1:(s:Int)<(t:Int):=by omega
   obtain⟨N,O,P⟩:=dL 16 (aO x) i.out;have g:=aO x;have Y:=cZ x;have Z:=aO y;have b4:=cZ y;go_wp2_with fail;refine(u s x wr).mono ?_;rw[q.out];rintro e Q ⟨rfl,l⟩;have j:=aA ((l.block (aI i)).trans i);have J:=aA ((l.block (aI d)).trans d);have R:=aA (B.trans l);have z0:=aP j 0 16 (by rw[g];decide);have z1:=bE j 0 16;have V:Hid (HB (Q.setCells n 0 (bC y)) n (bC y) 275):=bO j (by rw[g,Z])
   have X:Hid (HB (Q.setCells n 0 (bC y)) (n+1) (uL eO) 275):=(cD (by omega) _ _ _).trans J
   have p:=aA (R.setsOwn (b:=n) (by have:=I.out;omega) (bC y) 0);go_wp2_with fail;go_roundw
   .exact⟨k+1,by omega,by first|go_num|(congr 1;omega),by rw[D.out];exact V,X,p⟩
   .simp[intOf];omega
  .have q1:¬(s:Int)<(t:Int):=by omega
   have M:=r (by omega);obtain⟨z,E⟩:=ex (fk c a f (t-f) v);rw[E]at M;have T:=aA E;subst M;obtain⟨N,O,P⟩:=dL 16 (aO x) i.out;have g:=aO x;have Y:=cZ x;have z0:=aP d 0 16 (by simp[dJ,jf]);have z1:=bE d 0 16;have S:Hid (HB (wr.setCells (n+1) 0 (bC x)) (n+1) (bC x) 275):=bO d (by rw[g,dJ,jf])
   have p:=aA (B.setsOwn (b:=n+1) (by have:=I.out;omega) (bC x) 0);go_wp2_with fail;refine bI (dY rfl _ _ (n+1) _ _ _ _ rfl S underlying275 rfl (by rw[bQ,g];kernel_rfl)) rfl ?_;exact⟨by first|rfl|(rw[T.out]),p⟩
def ZK{W:aB}{b:Nat}{t:TypeId}{e:Nat->aK}(h:HB W b (cB e) t) (k:Nat) (c:k<35):cS W b (k*16) (e k).toList:=
 ⟨aI h,fun j x hj=>by
  have a:j<16:=by
   rcases th j 16 with q|q
   .exact q
   .rw[kZ (by simpa using q)]at hj;cases hj
  rw[bH h,yb e k c,eY _ _ _ (16*k) (uE e k 0) (by omega),show k*16+j-16*k=j by omega,oS (by rw[aO];exact a)];show((e k).toList.map _)[j]? =_
  rw[fo,hj];rfl⟩
@[go_sem] def ahf:dZ prog 276 =true:=by kernel_rfl
@[go_sem] def agA:prog.cellsOf 276 =560:=by kernel_rfl
@[go_sem ↓ high] def afX (w:aB):Sem.run prog (zeroValue 276) w=.ok (aE (cB fun _=>aQ)) w:=by kernel_rfl
def aas(d:Nat)(W:d<256)(e:Nat->aK)(w:aB):Calls prog 174 #[.int .i64 (d:Int),aE (cB e)] w (RG w (aE (bC (lA d e)))):=by
 obtain⟨n,M⟩:=ex w.heap.size;have HN:=aA M;obtain⟨p,C,HG,P,Q⟩:=gT M (aC (cB e) 276) (aC (uL eO) 275)
 have z:=aA (show p.heap.size=n+2 by rw[<-C];simp;omega)
 have g:=aA (MJ 4 d W 4 rfl p);have G:=aA (Fr d e);have l:=aA (Ci d e);have E:=aA (show gS 4 d=mX d e 0 by unfold mX;simp)
 have F:Hid (cF (mX d e 35)=lA d e):=rfl;have D:Hid (∀V,Gr p V->∀k,k<35->bX V (aR n (k*16) 16 16) 1 (iV (e k).toList)):=fun V hV k U=>(ZK ((hV.block (aI P)).trans P) k U).sl 16 16 (by simp) (aU _);generalize lA d e=y at*
 go_in;go_wp2_with fail;try rw[C]
 replace C:=aA C;refine g.mono ?_;rintro x w1 ⟨rfl,N,g1⟩;rw[E.out,z.out]at N;rw[z.out];have R:=aA N;have O:=aA g1;go_wp2_with fail
 go_loopw [5,6] (fun s i wr=>∃(k:Nat) (a:dB) (c:Nat),k<=35/\i=.int .i64 (k:Int)/\s=.slice a (5+16*k) c/\Hid (aZ wr (n+2) s (mX d e k))/\Hid (Gr p wr)) (fun _ i _=>35-(intOf i).toNat)
 .exact⟨0,_,_,by decide,rfl,rfl,R,O⟩
 .
  obtain⟨k,a,c,U,rfl,rfl,B,r⟩:=hrel;obtain⟨m,X⟩:=ex (5+16*k);rw[X]at B|-
  have q5:n+2<=wr.heap.size:=by have:=r.size;have:=z.out;omega
  by_cases L:k<35
  .have q1:(k:Int)<35:=by omega
   have q2:=nn k
   have HP:=aA (G k);have HL:=aA (l k);have o:=aA (D wr r k L);have HX:Hid (∀J K w',aZ w' (n+2) (.slice J (m+16) K) (mX d e k++(e k).toList)->aZ w' (n+2) (.slice J (5+16*(k+1)) K) (mX d e (k+1))):=fun J K w' h=>by rw[<-HP.out,show 5+16*(k+1)=m+16 by omega];exact h
   generalize f:mX d e (k+1)=a1 at*
   replace f:=aA f;generalize mX d e k=pr at*
   generalize(e k).toList=xl at*
   have H:Hid (xl.length=16):=by
    obtain⟨_,_,h,_⟩:=o.out;show _=_;injection h with _ h _;rw[kK]at h;exact h.symm
   go_wp2_with (at_builtin;refine uo _ rfl (.tmp 13) (.tmp 16) rfl (n+2) (.slice a m c) pr (by simp[Act.eval]) B (aR n (k*16) 16 16) xl (by simp[Act.eval]) o (m+16) ?g1 ?g2 q5 ?_)
   case g1=>rw[HL.out,H.out,X]
   case g2=>omega
   intro a5 n5 w5 v t;have Z:Hid (Gr p w5):=r.grown t (fun q hq=>by have h1:=(fA B q hq).1;have:=z.out;omega);have S:=aA (HX _ _ _ v);go_wp2_with fail;go_roundw
   .exact⟨k+1,a5,n5,by omega,by go_num,by rw[show 5+16*(k+1)=m+16 by omega],by rw[f.out];first|exact S|(rw[show m+16=5+16*(k+1) by omega];exact S),Z⟩
   .simp[intOf];omega
  .obtain rfl:k=35:=by omega
   have q1:¬((35:Nat):Int)<35:=by omega
   have j:=aA (K' (.slice a m c) (mX d e 35) wr (by rw[l.out 35];decide) B.bytG);rw[F.out]at j;have T:=aO y;have b4:=cZ y;go_wp2_with fail;refine bA j fun w6 u=>?_;have I:=aA (((r.trans u).block (aI Q)).trans Q);have z1:=aP I 0 16 (by simp[dJ,jf]);have z2:=bE I 0 16;have HE:Hid (HB (w6.setCells (n+1) 0 (bC y)) (n+1) (bC y) 275):=bO I (by rw[T,dJ,jf])
   have Y:=aA ((HG.trans (r.trans u)).setsOwn (b:=n+1) (by have:=HN.out;omega) (bC y) 0);go_wp2_with fail;refine bI (dY rfl _ _ (n+1) _ _ _ _ rfl HE underlying275 rfl (by rw[bQ,T];kernel_rfl)) rfl ?_;exact⟨rfl,Y⟩
end Go.Proofs.YtjfaogajmoffoaaGreatDoor
