/- Lemmas for VerifyStatus. -/
import Derived.Test.YtjfaogajmoffoaaGreatDoorQBC
set_option maxRecDepth 100000
set_option maxHeartbeats 16000000
set_option linter.all false
namespace Go.Proofs.YtjfaogajmoffoaaGreatDoor
open Go.RowKit Tryz
def MH:∀c:UInt8,fq c=if 48<=c.toNat/\c.toNat<=57 then(c.toNat:Int)-48 else if 97<=c.toNat/\c.toNat<=102 then(c.toNat:Int)-87 else-1:=qA (by decide+kernel)
def aa4(c:UInt8)(w:aB):Calls prog 122 #[.int .u8 (c.toNat:Int)] w fun e w'=>e=.returned (.int .i64 (fq c))/\w=w':=by
 have o:=c.toNat_lt;have a:=aA (MH c);generalize fq c=v at*
 generalize c.toNat=n at*
 by_cases f:48<=n
 .by_cases g:n<=57
  .have b:(48:Int)<=(n:Int):=by omega
   have l:(n:Int)<=57:=by omega
   have j:IntKind.u8.wrap ((n:Int)-48)=(n:Int)-48:=by rw[gg];omega
   have k:IntKind.i64.wrap ((n:Int)-48)=(n:Int)-48:=by rw[cV];omega
   go_in;go_wp2_with fail;go_ret;exact⟨eJ (by rw[a.out,aG ⟨f,g⟩]),rfl⟩
  .have b:(48:Int)<=(n:Int):=by omega
   have l:¬(n:Int)<=57:=by omega
   by_cases h:97<=n
   .have d:(97:Int)<=(n:Int):=by omega
    by_cases i:n<=102
    .have m:(n:Int)<=102:=by omega
     have j:IntKind.u8.wrap ((n:Int)-97)=(n:Int)-97:=by rw[gg];omega
     have k:IntKind.i64.wrap ((n:Int)-97)=(n:Int)-97:=by rw[cV];omega
     have p:IntKind.i64.wrap ((n:Int)-97+10)=(n:Int)-97+10:=by rw[cV];omega
     go_in;go_wp2_with fail;go_ret;exact⟨eJ (by rw[a.out,aF (by omega),aG ⟨h,i⟩];omega),rfl⟩
    .have m:¬(n:Int)<=102:=by omega
     go_in;go_wp2_with fail;go_ret;exact⟨eJ (by rw[a.out,aF (by omega),aF (by omega)]),rfl⟩
   .have d:¬(97:Int)<=(n:Int):=by omega
    go_in;go_wp2_with fail;go_ret;exact⟨eJ (by rw[a.out,aF (by omega),aF (by omega)]),rfl⟩
 .have b:¬(48:Int)<=(n:Int):=by omega
  have d:¬(97:Int)<=(n:Int):=by omega
  go_in;go_wp2_with fail;go_ret;exact⟨eJ (by rw[a.out,aF (by omega),aF (by omega)]),rfl⟩
def tD{n:Nat}(x:Vector UInt8 n)(k:Nat)(h:k<n):(bC x)[k]? =some (.int .u8 (x[k].toNat:Int)):=by simp[bC,h]
def xv(l:aM)(k:Nat)(h:k<l.length):dF (l.take (k+1))=dF (l.take k)++[fu (l[k].toNat/16),fu (l[k].toNat%16)]:=by
 rw[eF h];unfold dF;rw[pG];rfl
def iY(a b:aT):bs a++bs b=bs (a++b):=by
 apply ByteArray.ext;simp[bs]
def Z':∀q:Fin 16,(⟨#[48,49,50,51,52,53,54,55,56,57,97,98,99,100,101,102]⟩:aJ).extract q.val (q.val+1)=bs [fu q.val]:=by decide+kernel
def u_(q:Nat)(h:q<16):(⟨#[48,49,50,51,52,53,54,55,56,57,97,98,99,100,101,102]⟩:aJ).extract q (q+1)=bs [fu q]:=Z' ⟨q,h⟩
def Pj(a:cE)(w:aB):Calls prog 87 #[aE (bC a)] w (RG w (.string (bs (lI a)))):=by
 have j:=aA (km ((Gr.refl w).alloc (aC (bC a) 22)) (cM w (aC (bC a) 22)));go_in;go_wp2_with fail
 go_loopw [4,5] (fun s i wr=>∃k:Nat,k<=16/\i=.int .i64 k/\s=.string (bs (dF (a.toList.take k)))/\Hid (Gr w wr)/\Hid (HB wr (w.heap.size) (bC a) 22)) (fun _ i _=>16-(intOf i).toNat)
 .exact⟨0,bW _,rfl,rfl,j.1,j.2⟩
 .
  obtain⟨k,G,rfl,rfl,n,m⟩:=hrel;by_cases b:k<16
  .have h:(k:Int)<16:=by omega
   have p:=nn k
   have D:=(bH m k).trans (tD a k b);have l:Hid (bs (dF (a.toList.take k))++bs [fu (a[k].toNat/16)]++bs [fu (a[k].toNat%16)]=bs (dF (a.toList.take (k+1)))):=by
    show _=_;rw[xv a.toList k (by simpa using b),iY,iY,fl];rfl
   have J:=a[k].toNat_lt;generalize a[k].toNat=x at*
   have t:(bs (dF (a.toList.take k))).size<=32:=by
    show(dF (a.toList.take k)).toArray.size<=32;rw[bQ,qv,dP];omega
   generalize bs (dF (a.toList.take k))=s at*
   obtain⟨q,H,c,d⟩:∃q:Nat,(x:Int)/16=(q:Int)/\q<16/\x/16=q:=⟨x/16,by omega,by omega,rfl⟩;obtain⟨r,I,f,g⟩:∃r:Nat,(x:Int)%16=(r:Int)/\r<16/\x%16=r:=⟨x%16,by omega,by omega,rfl⟩;rw[d,g]at l;have u:=u_ q c;have v:=u_ r f;have S:(bs [fu q]).size=1:=rfl;have T:(bs [fu r]).size=1:=rfl;generalize bs [fu q]=E at*
   generalize bs [fu r]=F at*
   have K:¬9223372036854775807<s.size+1:=by omega
   have L:¬9223372036854775807<s.size+1+1:=by omega
   have O:IntKind.u8.wrap (q:Int)=(q:Int):=by rw[gg];omega
   have P:IntKind.u8.wrap ((q:Int)+1)=(q:Int)+1:=by rw[gg];omega
   have Q:IntKind.u8.wrap (r:Int)=(r:Int):=by rw[gg];omega
   have R:IntKind.u8.wrap ((r:Int)+1)=(r:Int)+1:=by rw[gg];omega
   have M:((q:Int)+1).toNat=q+1:=by omega
   have N:((r:Int)+1).toNat=r+1:=by omega
   have y:(q:Int)+1<=16:=by omega
   have z:(r:Int)+1<=16:=by omega
   have B:(q:Int)<=(q:Int)+1:=by omega
   have C:(r:Int)<=(r:Int)+1:=by omega
   go_wp2_with fail
   go_quiet (fail)
   go_wp2_with fail;go_roundw
   .exact⟨k+1,by omega,by go_num,ei Value.string l,n.drewN _,m⟩
   .simp[intOf];omega
  .have h:¬(k:Int)<16:=by omega
   have o:=aA (show bs (dF (a.toList.take k))=bs (lI a) by rw[eq (by simp;omega)];rfl)
   go_wp2_with fail;go_ret;exact⟨by rw[<-o.out];rfl,n⟩
def cU(b:UInt8):Value:=.int .u8 (b.toNat:Int)
def iV(l:aM):List bF:=l.map fun s=>[cU s]
def uT(l:aM):(iV l).flatten=l.map cU:=by
 induction l with
 |nil=>rfl
 |cons s l a=>unfold iV at*;rw[gt,yw,a];rfl
def uP(l:aM):∀r∈iV l,r.length=1:=by
 intro r a;obtain⟨s,_,rfl⟩:=iQ.1 a;rfl
def xx(l:aM):∀r∈iV l,cN r=true:=by
 intro r a;obtain⟨s,_,rfl⟩:=iQ.1 a;rfl
def kK(l:aM):(iV l).length=l.length:=by unfold iV;simp
def aZ(w:aB)(base:Nat)(v:Value)(l:aM):Prop:=w.ownsRow base 5 1 v l.length (l.map cU)
def aZ.nil(w:aB)(base:Nat):aZ w base (.slice none 0 0) []:=⟨rfl,.inl ⟨rfl,rfl⟩⟩
def aZ.made{w:aB}{base b:Nat}{l:aM}(h:HB w b (l.map cU) 5) (a:base<=b) (c:l.length<=1000000):aZ w base (aR b 0 l.length l.length) l:=
 ⟨by simp,.inr ⟨b,l.length,_,rfl,a,h,aU _,by unfold maxLen;omega,by simp,by rw[ld,wN,eq (by simp)]⟩⟩
def aZ.gr{w w':aB}{base:Nat}{v:Value}{l:aM}(h:aZ w base v l)(a:Gr w w'):aZ w' base v l:=mM h a.grownBy (by cases v.ownBlock<;>simp)
def aZ.sl{w:aB}{base:Nat}{v:Value}{l:aM}(h:aZ w base v l):bX w v 1 (iV l):=
 rf (uP l) (by rw[kK,uT];exact h)
def AE:(prog.info? 5).map (fun i=>(i.zero,i.size,i.bytes))=some (some (.int .u8 0),1,1):=by kernel_rfl
def sr:∃i z,prog.info? 5 =some i/\i.zero=some z/\i.size=1/\i.bytes=1/\z.cells.size=1:=by
 have h:=AE
 cases hi:prog.info? 5 with
 |none=>rw[hi]at h;cases h
 |some i=>
  rw[hi]at h;simp only[jm,qE,rk]at h;exact⟨i,.int .u8 0,rfl,h.1,h.2.1,h.2.2,rfl⟩
def wa{c:Array Oper}{o:Oper}{a:Act}{w:aB}{K:Act->aB->Prop}{Q:Exit->Act->aB->Prop}{E:Prop}
  (k:o.guard=none) (d:Nat) (j:o.dst=some d) (s x:Operand) (h:o.op=Op.call { callee:=Callee.builtin Builtin.append,args:=#[s,x],argTypes:=#[94,94] })
  (base:Nat) (v:Value) (xs:aM) (hs:a.eval s=v) (hown:aZ w base v xs) (sv:Value) (ys:aM) (hx:a.eval x=sv) (hsl:aZ w base sv ys) (N:Nat) (hN:xs.length+ys.length=N) (h63:N<=1000000) (hbase:base<=w.heap.size)
  (hK:∀e f w',aZ w' base (.slice e N f) (xs++ys)->w.grownBy w' v.ownBlock->K (a.put (some d) (.slice e N f)) w'):
  if Region.wanted o (yielded c a.tmps)=true then Oper.wp prog o a w K Q else E:=by
 subst hN;have l:Region.wanted o (yielded c a.tmps)=true:=by simp[Region.wanted,k]
 rw[aG l];obtain⟨i,z,m,n,p,q,r⟩:=sr;obtain⟨e,f,w',b,g,h3,_⟩:=v_ (P:=prog) w base 94 o.type 5 i z 1 1 underlying94 m n p q r (aH rfl) v xs.length (xs.map cU) hown sv (iV ys) hsl.sl (uP _) (xx _) (by rw[kK];exact h63) (aH rfl) hbase;rw[kK]at b g;rw[uT]at g;unfold Oper.wp;simp[execOp,h,resolve,invoke,builtin,hs,hx,b,Result.andThen];show K (a.put o.dst _) w';rw[j];refine hK e f w' ?_ h3;unfold aZ;rw[gD,bV];exact g
def aaO(A:dB->Nat->Act)(R:dB->Nat->aB->Prop)(e:Exit)(a:Act)(w:aB):Prop:=match e with| .normal=>∃x n,R x n w/\a=A x n|_=>False
def rH{P:Program}{c:Code}{Q':Exit->Act->aB->Prop}{a:Act}{w:aB}(A:dB->Nat->Act)(R:dB->Nat->aB->Prop)(h:c.wp P (aaO A R) a w)(f:∀x n W,R x n W->Q' .normal (A x n) W):c.wp P Q' a w:=
 qM (fun e a w h=>by cases e<;>first|exact h.elim|(obtain⟨x,n,b,d⟩:=h;subst d;exact f x n w b)) h
def xp(n:Nat)(h:n<=281474976710656)(w:aB):(Instr.makeSlice 94 (.int .i64 0) (.int .i64 (n:Int))).run prog w=.ok (aR (w.heap.size) 0 0 n) (w.alloc (.cells (madeCells #[.int .u8 0] n) 5)):=by
 obtain⟨i,hi,a⟩:=o4.1 AE;simp only[rk]at a;obtain⟨e,d,c⟩:=a;have b:=run_make (P:=prog) w 94 5 i (.int .u8 0) underlying94 hi e .i64 .i64 0 n (Int.le_refl _) (by omega) (by rw[c];omega) (by omega);rw[d]at b;simp only[ld,Int.toNat_zero,m_]at b;exact b
def aZ.fresh(w:aB)(base n b:Nat)(a:b=w.heap.size)(c:base<=w.heap.size)(d:n<=281474976710656):aZ (w.alloc (.cells (madeCells #[.int .u8 0] n) 5)) base (aR b 0 0 n) []:=by
 subst a;exact World.ownsRow_made (size:=1) w _ n c (by unfold maxLen;omega) (by rw[ld];simp[madeCells])
def aZ.cells{w:aB}{base:Nat}{v:Value}{l:aM}(h:aZ w base v l)(o:l≠[]):∃g c,v=aR g 0 l.length c/\l.length<=c/\g<w.heap.size/\base<=g/\∀(j:Nat) x,l[j]? =some x->w.cell? (aD g (0+j))=some (cU x):=by
 obtain⟨_,k⟩:=h;rcases k with⟨_,i⟩|⟨g,a,f,q,n,d,m,r,s,p⟩
 .exact absurd (fQ.1 i) o
 .refine⟨g,a,q,m,(bY.1 d).1,n,fun j x e=>?_⟩
  rw[fB,oW _ _ _ _ _ _ d];have b:=(nG.1 e).1;have:=ei (fun l=>l[j]?) p
  simp only[mi,ld,aG b,fo,e,jm]at this;rw[<-this,tv]
def aZ.str{w:aB}{base:Nat}{v:Value}{l:aM}(h:aZ w base v l):(convert 94 9 v).run prog w=.ok (.string (bs l)) w:=by
 by_cases e:l=[]
 .subst e
  obtain⟨_,i⟩:=h;rcases i with⟨rfl,_⟩|⟨g,b,f,rfl,m,n,k,o,p,q⟩
  .exact run_convert_bytes_nil w 94 5 underlying94 underlying5 0 0 9 underlying9
  .exact CK w 94 9 5 (aD g 0) b [] underlying94 underlying5 underlying9 (fun j d=>by simp at d)
 .obtain⟨g,c,rfl,k,m,_,a⟩:=h.cells e
  exact CK w 94 9 5 (aD g 0) c l underlying94 underlying5 underlying9 (fun j d=>by rw[fO];exact a j _ (cO d))
def zO{n:Nat}(t:TypeId)(h:prog.underlying t=some (.array n 5))(x:Vector UInt8 n)(k:Nat)(a:k<n)(w:aB):(Instr.index t (aE (bC x)) (.int .i64 (k:Int))).run prog w=.ok (.int .u8 (x[k].toNat:Int)) w:=by
 have e:(bC x)[k]? =some (.int .u8 (x[k].toNat:Int)):=tD x k a
 obtain⟨i,z,hi,_,b,_⟩:=sr;simp[Instr.index,asIntOf,lQ h,a,part,isAgg,lQ underlying5,sizeOf,typeInfo,hi,b,e]
def Fd:∀x:UInt8,bits .and .u8 (x.toNat:Int) 15=((x.toNat%16:Nat):Int):=qA (by decide+kernel)
def YI:∀i:Fin 16,(⟨#[48,49,50,51,52,53,54,55,56,57,97,98,99,100,101,102]⟩:aJ)[i.val]'(i.isLt)=fu i.val:=by decide+kernel
def zP(q:Nat)(a:q<16)(w:aB):(Instr.index 9 (.string ⟨#[48,49,50,51,52,53,54,55,56,57,97,98,99,100,101,102]⟩) (.int .u8 (q:Int))).run prog w=.ok (.int .u8 ((fu q).toNat:Int)) w:=by
 rw[AB w 9 _ .u8 _ underlying9,dif_pos (by constructor<;>(first|omega|(show(q:Int)<16;omega)))];have h:=YI ⟨q,a⟩;simp only[m_];rw[h]
def Zq(a:cE)(w:aB):Calls prog 112 #[aE (bC a)] w (RG w (.string (bs (lI a)))):=by
 have hmk:∀w,(Instr.makeSlice 94 (.int .i64 0) (.int .i64 32)).run prog w=.ok (aR (w.heap.size) 0 0 32) (w.alloc (.cells (madeCells #[.int .u8 0] 32) 5)):=xp 32 (aH rfl);have HF:=Lib.hid (aZ.fresh (w.alloc (aC (bC a) 42)) w.heap.size 32 (w.heap.size+1) (by simp) (by simp) (aH rfl));have HG:=Lib.hid (((Gr.refl w).alloc (aC (bC a) 42)).alloc (.cells (madeCells #[.int .u8 0] 32) 5));go_in;go_wp2_with fail
 go_loopw [3,8] (fun v i wr=>∃k:Nat,k<=16/\i=.int .i64 k/\Hid (Gr w wr)/\Hid (aZ wr w.heap.size v (dF (a.toList.take k)))) (fun _ i _=>16-(intOf i).toNat)
 .exact⟨0,Nat.zero_le _,rfl,HG,HF⟩
 .
  obtain⟨k,hk,rfl,hG,hO⟩:=hrel;by_cases hlt:k<16
  .have hk1:(k:Int)<16:=by omega
   have hk2:(0:Int)<=(k:Int):=by omega
   have hix:=zO 42 underlying42 a k hlt;have HT:Hid (dF (a.toList.take k)++[fu (a[k].toNat/16),fu (a[k].toNat%16)]=dF (a.toList.take (k+1))):=(xv a.toList k (by simpa using hlt)).symm;have hand:=Fd a[k];have hx:=a[k].toNat_lt;have HN:=aA (show (dF (a.toList.take k)).length+2=2*k+2 by rw[qv,List.length_take];simp;omega)
   generalize dF (a.toList.take k)=ds at*
   generalize a[k].toNat=x at*
   obtain⟨q,hq,hq16,hqx⟩:∃q:Nat,(x:Int)/16=(q:Int)/\q<16/\x/16=q:=⟨x/16,by omega,by omega,rfl⟩;obtain⟨r,hr,hr16⟩:∃r:Nat,x%16=r/\r<16:=⟨x%16,rfl,by omega⟩;rw[hr]at hand HT;rw[hqx]at HT;have hd1:=zP q hq16;have hd2:=zP r hr16;generalize fu q=d1 at*
   generalize fu r=d2 at*
   go_wp2_with fail;apply rH (R:=fun x n W=>Hid (Gr w W)/\Hid (aZ W w.heap.size (.slice x (2*k+2) n) (ds++[d1,d2])))
   case h=>
    go_region_held_law (fun _=>True) (trivial)
     (first|(refine wa rfl 19 rfl (.tmp 11) (.tmp 18) rfl w.heap.size u3 ds (by simp[Act.eval]) (hO.gr ((Gr.refl wr).drew.alloc _)) (aR (wr.heap.size) 0 2 2) [d1,d2] (by simp[Act.eval]) (aZ.made (l:=[d1,d2]) (heap_alloc_new wr.drew _) (by have:=hG.size;omega) (by simp)) (2*k+2) HN (by omega) (by have:=hG.size;simp;omega) ?_;intro a1 c1 w1 ho1 hg1))
    all_goals exact⟨a1,c1,⟨((hG.drew.alloc _).grown hg1 (fun q hq=>(World.ownsRow.lt hO q hq).1)),ho1⟩,rfl⟩
   rintro x1 n1 W1 ⟨hG1,hO1⟩;rw[HT.out]at hO1;go_wp2_with fail;go_roundw
   .exact⟨k+1,by omega,by go_num,hG1,hO1⟩
   .simp[intOf];omega
  .have hk1:¬(k:Int)<16:=by omega
   have HO:=Lib.hid hO.str;have hcv:(convert 94 9 u3).run prog wr=.ok (.string (bs (lI a))) wr:=by
    have e:dF (a.toList.take k)=lI a:=by rw[List.take_of_length_le (by simp;omega)];rfl
    rw[<-e];exact HO
   go_wp2_with fail;go_ret;exact⟨rfl,hG⟩
def abp(s:aT)(k:Nat)(b:k<s.length)(h:(s.take k).all fE=true)(d:fE (s.getD k 0)=false):nV s=k:=by
 have e:s=s.take k++s.getD k 0::s.drop (k+1):=by
  rw[eD,cO b,nj,<-kR b,lq]
 unfold nV;rw[e,List.takeWhile_append_of_pos (fun a c=>gY.1 h a c),r',d];simp;omega
def Mx{p:UInt8->Bool}:∀(k:Nat) (s:aT),k<=s.length->(s.take k).all p=true->k<=(s.takeWhile p).length
 |0,_,_,_=>bW _
 |k+1,[],h,_=>by simp at h
 |k+1,c::s,h,ha=>by
  rw[gR,nm,fH]at ha;rw[r',ha.1,aG rfl,dN];have:=Mx k s (by simpa using h) ha.2;omega
def qt(s:aT):Value:=.tuple #[aE (bC (pR s)),.int .i64 (gZ s).1,.int .i64 (gZ s).2]
def EZ{s:aT}{a e:Int}(h:gZ s=(a,e))(b:e≠0):qt s=.tuple #[aE (bC aQ),.int .i64 a,.int .i64 e]:=by
 have:pR s=aQ:=by unfold pR;rw[h,aF b]
 unfold qt;rw[this,h]
def M'{s:aT}{k:Nat}(b:k<min s.length 32)(h:(s.take k).all fE=true)(a:fE (s.getD k 0)=false):qt s=.tuple #[aE (bC aQ),.int .i64 k,.int .i64 6]:=by
 have:=abp s k (by omega) h a;exact EZ (by unfold gZ;rw[aG (by omega),this]) (aH rfl)
def Mo{s:aT}(a:s.length<32)(h:s.all fE=true):qt s=.tuple #[aE (bC aQ),.int .i64 s.length,.int .i64 4]:=by
 have:nV s=s.length:=by unfold nV;rw[xn h]
 exact EZ (by unfold gZ;rw[aF (by omega),aG a]) (aH rfl)
def LW{s:aT}{k:Nat}(a:k=32)(b:32<s.length)(h:(s.take k).all fE=true):qt s=.tuple #[aE (bC aQ),.int .i64 32,.int .i64 5]:=by
 subst a;have:32<=nV s:=Mx 32 s (by omega) h;exact EZ (by unfold gZ;rw[aF (by omega),aF (by omega),aG b]) (aH rfl)
def L0{s:aT}{k:Nat}(a:k=32)(b:s.length=32)(h:s.all fE=true):qt s=.tuple #[aE ((dV 16 s k).map cU),.int .i64 0,.int .i64 0]:=by
 subst a;have c:(gZ s).2=0:=ada.2 ⟨b,h⟩;have d:gZ s=(0,0):=by
  have:nV s=32:=by unfold nV;rw[xn h,b]
  unfold gZ;rw[aF (by omega),aF (by omega),aF (by omega)]
 have e:bC (pR s)=(dV 16 s 32).map cU:=by
  unfold pR;rw[aG c,Lk 16 s b];unfold bC;rw[rM (su 16 s b)];rfl
 unfold qt;rw[d,e]
def vS(c:UInt8):fE c=false↔fq c<0:=by unfold fE;simp
def Nw{p:UInt8->Bool}(s:aT)(k:Nat)(a:k<s.length)(h:(s.take k).all p=true)(b:p (s.getD k 0)=true):(s.take (k+1)).all p=true:=by
 rw[eF a,rW,h];rw[eD,cO a,nj]at b;simp[b]
def abB:∀(i:Fin 256) (j:Fin 16),bits .or .u8 (IntKind.u8.wrap ((i.val:Int)*16)) (j.val:Int)=(((UInt8.ofNat i.val<<<4)|||UInt8.ofNat j.val).toNat:Int):=by decide+kernel
def Lu(x v:UInt8)(h:v.toNat<16):bits .or .u8 ((x.toNat:Int)*16%256) (v.toNat:Int)=((x<<<4|||v).toNat:Int):=by
 have:=abB ⟨x.toNat,x.toNat_lt⟩ ⟨v.toNat,h⟩;rw[gg]at this;simpa using this
def Cx(l:aM)(i:Nat)(v:UInt8):(yG l i v).map cU=(l.map cU).set (i/2) (cU (l.getD (i/2) 0<<<4|||v)):=by
 unfold yG;rw[tX]
def Gr.setOwn{w wr:aB}(c:Gr w wr){b o:Nat}(a:w.heap.size<=b)(u:Value):Gr w (wr.setCell (aD b o) u):=Gr.of_grownBy (vo (dW (row:=none) c) a u)
def Gr.setsOwn{w wr:aB}(c:Gr w wr){b:Nat}(a:w.heap.size<=b)(l:bF)(k:Nat):Gr w (wr.setCells b k l):=Gr.of_grownBy (ko a l k wr (dW (row:=none) c))
def Wj(s:aJ)(w:aB)(hs:s.size<=1000000):Calls prog 281 #[.string s] w (RG w (qt (bl s))):=by
 have H:=aA ((Gr.refl w).alloc (.cells (bC aQ).toArray 42));have F:=aA (cM w (.cells (bC aQ).toArray 42));go_in;go_wp2_with fail
 go_loopw [10] (fun i wr=>∃k:Nat,k<=min s.size 32/\i=.int .i64 k/\Hid (((bl s).take k).all fE=true)/\Hid (Gr w wr)/\Hid (HB wr (w.heap.size) ((dV 16 (bl s) k).map cU) 42)) (fun i _=>32-(intOf i).toNat)
 .exact⟨0,bW _,rfl,rfl,H,F⟩
 .
  obtain⟨k,Q,rfl,g,q,a⟩:=hrel;by_cases t:k<min s.size 32
  .have z:k<s.size:=by omega
   have M:(k:Int)<min (s.size:Int) 32:=by omega
   have Y:=nn k
   have Z:(k:Int)<(s.size:Int):=by omega
   have J:Hid (∀W,Calls prog 302 #[.string ⟨#[48,49,50,51,52,53,54,55,56,57,97,98,99,100,101,102]⟩,.int .u8 (s[k].toNat:Int)] W fun e w'=>e=.returned (.int .i64 (fq s[k]))/\w'=W):=fun W=>by
    have h:=Tryz.strings_IndexByte ⟨#[48,49,50,51,52,53,54,55,56,57,97,98,99,100,101,102]⟩ (s[k].toNat:Int) W;have e:((s[k].toNat:Int)).toNat.toUInt8=s[k]:=by simp
    rw[e]at h;exact h
   have f:(bl s).getD k 0=s[k]:=by
    rw[eD,cO (by rw[bN];exact z)];rfl
   have d:((dV 16 (bl s) k).map cU).length=16:=by rw[cL,rL]
   have hz:=(bY.1 a).1;by_cases C:fq s[k]<0
   .have hr:=aP a 0 16 (by rw[d];decide)
    have X:=bE a 0 16;have l:=aA (M' (s:=bl s) (k:=k) (by rw[bN];exact t) g (by rw[f,vS];exact C));have hb:=aA (bO (cs:=bC aQ) a (by rw[d,a_]));have D:=aA (q.setsOwn (b:=w.heap.size) (aU _) (bC aQ) 0);clear f d g a;go_wp2_with (go_at_call 302;refine(J _).mono ?_;rintro e w' ⟨rfl,rfl⟩);refine bI (gn (p:=2) (u1:=3) (u2:=4) rfl _ _ w.heap.size _ _ _ _ rfl hb underlying42 rfl (by rw[bQ,a_];kernel_rfl)) rfl ?_;exact⟨by rw[l.out];rfl,D⟩
   .have r:fE s[k]=true:=by
     cases hb:fE s[k]with
     |true=>rfl
     |false=>exact absurd ((vS _).1 hb) C
    have E:=aA (Nw (bl s) k (by rw[bN];exact z) g (by rw[f];exact r));obtain⟨_,m,u⟩:=uv s[k] r;have V:Hid ((dV 16 (bl s) (k+1)).map cU=((dV 16 (bl s) k).map cU).set (k/2) (cU ((dV 16 (bl s) k).getD (k/2) 0<<<4|||fY s[k]))):=by
     show _=_;rw[dV,Cx,f]
    have P:k/2<(dV 16 (bl s) k).length:=by rw[rL];omega
    have c0:wr.cell? ⟨w.heap.size,k/2,none⟩=some (.int .u8 (((dV 16 (bl s) k).getD (k/2) 0).toNat:Int)):=by
     rw[bH a.out,fo,cO P,eD,cO P];rfl
    have f0:=ee a (k/2);have N:=Lu ((dV 16 (bl s) k).getD (k/2) 0) (fY s[k]) (by rw[u];exact m);generalize(dV 16 (bl s) k).getD (k/2) 0=x at*
    obtain⟨n,R,B⟩:∃n:Nat,fq s[k]=(n:Int)/\(fY s[k]).toNat=n:=⟨(fq s[k]).toNat,by omega,u⟩;rw[B]at N;rw[R]at J;have hw:IntKind.u8.wrap (n:Int)=(n:Int):=by rw[gg];omega
    have O:((k:Int)/2).toNat=k/2:=by omega
    generalize x<<<4|||fY s[k]=y at*
    have G:=aA (fC wr w.heap.size (k/2) _ _ (cU y) a);have I:=aA (q.setOwn (b:=w.heap.size) (o:=k/2) (aU _) (cU y));clear f d C m u R B r g a q;go_wp2_with (go_at_call 302;refine(J _).mono ?_;rintro e w' ⟨rfl,rfl⟩);go_roundw
    .exact⟨k+1,by omega,by go_num,E,I,by show _=_;rw[V.out];simpa[cU]using G.out⟩
    .simp[intOf];omega
  .have M:¬(k:Int)<min (s.size:Int) 32:=by omega
   have d:((dV 16 (bl s) k).map cU).length=16:=by rw[cL,rL]
   have hr:=aP a 0 16 (by rw[d];decide);have X:=bE a 0 16;have hb:=aA (bO (cs:=bC aQ) a (by rw[d,a_]));have D:=aA (q.setsOwn (b:=w.heap.size) (aU _) (bC aQ) 0);have j:=bN s;by_cases h1:s.size<32
   .have c:k=s.size:=by omega
    subst c;have l:=aA (Mo (s:=bl s) (by omega) (by have:=g.out;rwa[eq (by omega)]at this));rw[j]at l;have T:(s.size:Int)<32:=by omega
    clear d g a j;go_wp2_with fail;refine bI (gn (p:=2) (u1:=3) (u2:=4) rfl _ _ w.heap.size _ _ _ _ rfl hb underlying42 rfl (by rw[bQ,a_];kernel_rfl)) rfl ?_;exact⟨by rw[l.out];rfl,D⟩
   .have c:k=32:=by omega
    have T:¬(s.size:Int)<32:=by omega
    by_cases h3:32<s.size
    .have l:=aA (LW (s:=bl s) c (by omega) g)
     have U:32<(s.size:Int):=by omega
     clear d g a j c Q t H F q;go_wp2_with fail;refine bI (gn (p:=2) (u1:=3) (u2:=4) rfl _ _ w.heap.size _ _ _ _ rfl hb underlying42 rfl (by rw[bQ,a_];kernel_rfl)) rfl ?_;exact⟨by rw[l.out];rfl,D⟩
    .have l:=aA (L0 (s:=bl s) c (by omega) (by have:=g.out;rwa[eq (by omega)]at this))
     have U:¬32<(s.size:Int):=by omega
     have hq:=(bJ a 0 16 (by rw[d];decide)).trans (b_ _ _ d);have S:cN ((dV 16 (bl s) k).map cU)=true:=gY.2 fun v C=>by obtain⟨b,_,rfl⟩:=iQ.1 C;rfl
     have K:=aA (bO (cs:=(dV 16 (bl s) k).map cU) a rfl);have L:=aA (q.setsOwn (b:=w.heap.size) (aU _) ((dV 16 (bl s) k).map cU) 0);clear g a j c Q t H F q;generalize(dV 16 (bl s) k).map cU=cs at*
     go_wp2_with fail;refine bI (gn (p:=2) (u1:=3) (u2:=4) rfl _ _ w.heap.size _ _ _ _ rfl K underlying42 rfl (by rw[bQ,d];kernel_rfl)) rfl ?_;exact⟨by rw[l.out];rfl,L⟩
def acW:∀(i:Fin 256) (j:Fin 16),((i.val:Int)*(16:Int)%(256:Int)+(j.val:Int))%(256:Int)=(((UInt8.ofNat i.val<<<4)|||UInt8.ofNat j.val).toNat:Int):=by decide+kernel
def KI(x v:UInt8)(h:v.toNat<16):((x.toNat:Int)*(16:Int)%(256:Int)+(v.toNat:Int))%(256:Int)=((x<<<4|||v).toNat:Int):=by
 have:=acW ⟨x.toNat,x.toNat_lt⟩ ⟨v.toNat,h⟩;simpa using this
def abI(s:aJ)(w:aB)(hs:s.size<=1000000):Calls prog 69 #[.string s] w (RG w (qt (bl s))):=by
 have F:=aA (((Gr.refl w).alloc (aC (bC aQ) 22)).alloc (aC (bC aQ) 22));have c:=aA (pg w (aC (bC aQ) 22) (aC (bC aQ) 22));have E:=aA (lh w (aC (bC aQ) 22) (aC (bC aQ) 22));go_in;go_wp2_with fail
 go_loopw [6] (fun i wr=>∃k:Nat,k<=min s.size 32/\i=.int .i64 k/\Hid (((bl s).take k).all fE=true)/\Hid (Gr w wr)/\Hid (HB wr (w.heap.size) (bC aQ) 22)/\Hid (HB wr (w.heap.size+1) ((dV 16 (bl s) k).map cU) 22)) (fun i _=>32-(intOf i).toNat)
 .exact⟨0,bW _,rfl,rfl,F,c,E⟩
 .
  obtain⟨k,hk,rfl,h,G,a,f⟩:=hrel;have hr:=aP a 0 16 (by rw[a_];decide);have hf:=bE a 0 16;have j:=aA (bO (cs:=bC aQ) a rfl);have l:=aA (G.setsOwn (b:=w.heap.size) (aU _) (bC aQ) 0);have q:((dV 16 (bl s) k).map cU).length=16:=by rw[cL,rL]
  by_cases C:k<min s.size 32
  .have J:k<s.size:=by omega
   have a4:(k:Int)<32:=by omega
   have a5:=nn k
   have a6:(k:Int)<(s.size:Int):=by omega
   have N:=aA (aa4 s[k]);have g:(bl s).getD k 0=s[k]:=by
    rw[eD,cO (by rw[bN];exact J)];rfl
   by_cases M:fq s[k]<0
   .have t:=aA (M' (s:=bl s) (k:=k) (by rw[bN];exact C) h (by rw[g,vS];exact M))
    go_wp2_with (go_at_call 122;refine dK (N _) ?_);refine bI (gn (p:=2) (u1:=3) (u2:=4) rfl _ _ w.heap.size _ _ _ _ rfl j underlying22 rfl (by rw[bQ,a_];kernel_rfl)) rfl ?_;exact⟨by rw[t.out];rfl,l⟩
   .have B:fE s[k]=true:=by
     cases hb:fE s[k]with
     |true=>rfl
     |false=>exact absurd ((vS _).1 hb) M
    have P:=aA (Nw (bl s) k (by rw[bN];exact J) h (by rw[g];exact B));obtain⟨_,z,D⟩:=uv s[k] B;have hD:Hid ((dV 16 (bl s) (k+1)).map cU=((dV 16 (bl s) k).map cU).set (k/2) (cU ((dV 16 (bl s) k).getD (k/2) 0<<<4|||fY s[k]))):=by
     show _=_;rw[dV,Cx,g]
    have hj:k/2<(dV 16 (bl s) k).length:=by rw[rL];omega
    have T:wr.cell? (aD (w.heap.size+1) (k/2))=some (.int .u8 (((dV 16 (bl s) k).getD (k/2) 0).toNat:Int)):=by
     rw[bH f.out,fo,cO hj,eD,cO hj];rfl
    have f0:=ee f (k/2);have Z:=(bY.1 f).1;have L:=KI ((dV 16 (bl s) k).getD (k/2) 0) (fY s[k]) (by rw[D];exact z);generalize(dV 16 (bl s) k).getD (k/2) 0=x at*
    obtain⟨n,hn,K⟩:∃n:Nat,fq s[k]=(n:Int)/\(fY s[k]).toNat=n:=⟨(fq s[k]).toNat,by omega,D⟩;rw[K]at L;rw[hn]at N;have hw:IntKind.u8.wrap (n:Int)=(n:Int):=by rw[gg];omega
    have a7:¬(n:Int)<0:=by omega
    have a1:((k:Int)/2).toNat=k/2:=by omega
    generalize x<<<4|||fY s[k]=y at*
    have V:Hid (∀m,(wr.drewN m).cell? (aD (w.heap.size+1) (k/2))=some (.int .u8 (x.toNat:Int))/\(wr.drewN m).frozen? (aD (w.heap.size+1) (k/2))=false):=fun m=>⟨T,f0⟩;clear g q M z D hn K B h F c E j l;go_wp2_with (go_at_call 122;refine dK (N _) ?_);have q1:(0:Int)<=(k:Int)/2:=by omega
    have q2:(k:Int)/2<16:=by omega
    have q3:k/2<16:=by omega
    have a9:IntKind.u8.wrap (IntKind.u8.wrap ((x.toNat:Int)*16)+(n:Int))=(y.toNat:Int):=by rw[gg,gg];exact L
    refine jd 13 (fun u=>∃p:LD,u=lw wr p) (by kernel_rfl) (by kernel_rfl) (oO wr) ?_;simp only[gR,fy,ib,gd];repeat (go_big_quiet_step (first|(go_at_call 122;exact uO (N _))))
    refine cX ?_;rintro _ ⟨p,rfl⟩;have H:=(j' wr p).1;have W:=aA ((H.block (bY.1 a).1).trans a);have O:=(H.block (bY.1 f).1).trans f;have GU:=aA (G.trans H);have aa:=(bY.1 O).1;have fU:=ee O (k/2);have dU:=(H.cell (p:=⟨w.heap.size+1,k/2,none⟩) Z).trans T;have HU:=aA O;generalize lw wr p=U at*
    have Q:=aA (fC U (w.heap.size+1) (k/2) _ _ (cU y) HU);have R:=aA ((cG U (aD (w.heap.size+1) (k/2)) w.heap.size (cU y) (by show w.heap.size≠w.heap.size+1;omega)).trans W);have S:=aA (GU.setOwn (b:=w.heap.size+1) (o:=k/2) (by omega) (cU y));go_wp2_with fail;go_roundw
    .exact⟨k+1,by omega,by go_num,P,S,R,by show _=_;rw[hD.out];simpa[cU]using Q.out⟩
    .simp[intOf];omega
  .have r:=bN s
   by_cases h1:s.size<32
   .have d:k=s.size:=by omega
    subst d;have t:=aA (Mo (s:=bl s) (by omega) (by have:=h.out;rwa[eq (by omega)]at this));rw[r]at t;have h2:(s.size:Int)<32:=by omega
    go_wp2_with fail;refine bI (gn (p:=2) (u1:=3) (u2:=4) rfl _ _ w.heap.size _ _ _ _ rfl j underlying22 rfl (by rw[bQ,a_];kernel_rfl)) rfl ?_;exact⟨by rw[t.out];rfl,l⟩
   .have d:k=32:=by omega
    have a3:¬(k:Int)<32:=by omega
    have I:(k:Int)<(s.size:Int)\/¬(k:Int)<(s.size:Int):=by omega
    have h2:¬(s.size:Int)<32:=by omega
    by_cases h3:32<s.size
    .have t:=aA (LW (s:=bl s) d (by omega) h)
     have h4:32<(s.size:Int):=by omega
     have h5:(k:Int)<(s.size:Int):=by omega
     go_wp2_with fail;refine bI (gn (p:=2) (u1:=3) (u2:=4) rfl _ _ w.heap.size _ _ _ _ rfl j underlying22 rfl (by rw[bQ,a_];kernel_rfl)) rfl ?_;exact⟨by rw[t.out];rfl,l⟩
    .have t:=aA (L0 (s:=bl s) d (by omega) (by have:=h.out;rwa[eq (by omega)]at this))
     have h4:¬32<(s.size:Int):=by omega
     have h5:¬(k:Int)<(s.size:Int):=by omega
     have a8:=aP f 0 16 (by rw[q];decide);have hq:=(bJ f 0 16 (by rw[q];decide)).trans (b_ _ _ q);have a2:cN ((dV 16 (bl s) k).map cU)=true:=gY.2 fun v M=>by obtain⟨b,_,rfl⟩:=iQ.1 M;rfl
     have X:=aA (bO (cs:=(dV 16 (bl s) k).map cU) a (by rw[q,a_]));have Y:=aA (G.setsOwn (b:=w.heap.size) (aU _) ((dV 16 (bl s) k).map cU) 0);generalize(dV 16 (bl s) k).map cU=cs at*
     go_wp2_with fail;refine bI (gn (p:=2) (u1:=3) (u2:=4) rfl _ _ w.heap.size _ _ _ _ rfl X underlying22 rfl (by rw[bQ,q];kernel_rfl)) rfl ?_;exact⟨by rw[t.out];rfl,Y⟩
@[go_sem ↓ high] def agR (w:aB):Sem.run prog (zeroValue 42) w=.ok (aE (bC aQ)) w:=by kernel_rfl
@[go_sem ↓ high] def agV (w:aB):Sem.run prog (zeroValue 22) w=.ok (aE (bC aQ)) w:=by kernel_rfl
@[go_sem ↓ high] def aeA (w:aB) (t:TypeId) (b:Nat) (x y:cE) (a:b=w.heap.size):(w.alloc (aC (bC x) t)).setCells b 0 (bC y)=w.alloc (aC (bC y) t):=by
 have e:=qO w t b a [] (bC y) [] (bC x) (by rw[a_,a_]);simpa using e
def vp(W:aB)(b:Nat)(t:TypeId)(x:cE):Prop:=HB W b (bC x) t
def vp.gr{W a:aB}{b:Nat}{t:TypeId}{x:cE}(h:vp W b t x)(c:Gr W a):vp a b t x:=(c.block (bY.1 h).1).trans h
def vp.rows{W:aB}{b:Nat}{t:TypeId}{x:cE}(h:vp W b t x):hasRow W (aD b 0) 16=true/\rowAt W (aD b 0) 16=bC x/\b<W.heap.size:=
 ⟨aP h 0 16 (by rw[a_];decide),(bJ h 0 16 (by rw[a_];decide)).trans (b_ _ _ (a_ x)),(bY.1 h).1⟩
def cS(w:aB)(g o:Nat)(l:aM):Prop:=g<w.heap.size/\∀(j:Nat) x,l[j]? =some x->w.cell? ⟨g,o+j,none⟩=some (cU x)
def cS.gr{w w':aB}{g o:Nat}{l:aM}(h:cS w g o l)(a:Gr w w'):cS w' g o l:=⟨dQ h.1 a.size,fun j x b=>(a.cell h.1).trans (h.2 j x b)⟩
def cS.vec{n:Nat}{w:aB}{g:Nat}{t:TypeId}{x:Vector UInt8 n}(h:HB w g (bC x) t):cS w g 0 x.toList:=
 ⟨(bY.1 h).1,fun j y a=>by
  rw[fB,bH h];unfold bC;rw[fo,a];rfl⟩
def acg(g o c:Nat)(l:aM)(w:aB)(hl:l.length<=1000)(h:cS w g o l):Calls prog 234 #[.slice (some ⟨g,o,none⟩) l.length c] w (RG w (.string (bs (dF l)))):=by
 have hmk:∀w,(Instr.makeSlice 94 (.int .i64 0) (.int .i64 (2*(l.length:Int)))).run prog w=.ok (.slice (some ⟨w.heap.size,0,none⟩) 0 (2*l.length)) (w.alloc (.cells (madeCells #[.int .u8 0] (2*l.length)) 5)):=by
  have h:=xp (2*l.length) (by omega);rw[Int.natCast_mul]at h;exact h
 have HF:=Lib.hid (aZ.fresh w w.heap.size (2*l.length) w.heap.size rfl (Nat.le_refl _) (by omega));have HG:=Lib.hid ((Gr.refl w).alloc (.cells (madeCells #[.int .u8 0] (2*l.length)) 5));have HB:=Lib.hid h;have HL:Hid (∀k (hk:k<l.length),l[k]? =some l[k]):=fun k hk=>List.getElem?_eq_getElem hk
 have HE:=aA (show dF (l.take l.length)=dF l by rw[List.take_length])
 have HT:Hid (∀k (hk:k<l.length),dF (l.take (k+1))=dF (l.take k)++[fu (l[k].toNat/16),fu (l[k].toNat%16)]/\(dF (l.take k)).length=2*k):=fun k hk=>⟨xv l k hk,by rw[qv,List.length_take];omega⟩;clear h;have hn:∃n,l.length=n:=⟨_,rfl⟩;obtain⟨n,hn⟩:=hn;have HNN:=Lib.hid hn;rw[hn]at hmk hl HF HG HE;rw[hn];clear hn;go_in;go_wp2_with fail
 go_loopw [3,12] (fun v i wr=>∃k:Nat,k<=n/\i=.int .i64 k/\Hid (Gr w wr)/\Hid (aZ wr w.heap.size v (dF (l.take k)))) (fun _ i _=>n-(intOf i).toNat)
 .exact⟨0,Nat.zero_le _,rfl,HG,HF⟩
 .
  obtain⟨k,hk,rfl,hG,hO⟩:=hrel;by_cases hlt:k<n
  .have hk1:(k:Int)<(n:Int):=by omega
   have hk2:(0:Int)<=(k:Int):=by omega
   have hlk:k<l.length:=by have:=HNN.out;omega
   obtain⟨ht,hlen⟩:=HT.out k hlk;have c0:=(hG.cell HB.1).trans (HB.2 k _ (HL k hlk));unfold cU at c0;have hand:=Fd l[k];have hx:=l[k].toNat_lt;have HT1:Hid (dF (l.take k)++[fu (l[k].toNat/16),fu (l[k].toNat%16)]=dF (l.take (k+1))):=ht.symm;have HN:=aA (show (dF (l.take k)).length+2=2*k+2 by rw[hlen])
   clear ht hlen;generalize dF (l.take k)=ds at*
   generalize l[k].toNat=x at*
   obtain⟨q,hq,hq16,hqx⟩:∃q:Nat,(x:Int)/16=(q:Int)/\q<16/\x/16=q:=⟨x/16,by omega,by omega,rfl⟩;obtain⟨r,hr,hr16⟩:∃r:Nat,x%16=r/\r<16:=⟨x%16,rfl,by omega⟩;rw[hr]at hand HT1;rw[hqx]at HT1;have hd1:=zP q hq16;have hd2:=zP r hr16;generalize fu q=d1 at*
   generalize fu r=d2 at*
   have hz:=Nat.lt_of_lt_of_le HB.1 hG.size;go_wp2_with fail;apply rH (R:=fun x n W=>Hid (Gr w W)/\Hid (aZ W w.heap.size (.slice x (2*k+2) n) (ds++[d1,d2])))
   case h=>
    go_region_held_law (fun _=>True) (trivial)
     (first|(refine wa rfl 24 rfl (.tmp 16) (.tmp 23) rfl w.heap.size u3 ds (by simp[Act.eval]) (hO.gr ((Gr.refl wr).drew.alloc _)) (.slice (some ⟨wr.heap.size,0,none⟩) 2 2) [d1,d2] (by simp[Act.eval]) (aZ.made (l:=[d1,d2]) (heap_alloc_new wr.drew _) (by have:=hG.size;omega) (by simp)) (2*k+2) HN (by omega) (by have:=hG.size;simp;omega) ?_;intro a1 c1 w1 ho1 hg1))
    all_goals exact⟨a1,c1,⟨((hG.drew.alloc _).grown hg1 (fun q hq=>(World.ownsRow.lt hO q hq).1)),ho1⟩,rfl⟩
   rintro x1 n1 W1 ⟨hG1,hO1⟩;rw[HT1.out]at hO1;clear hd1 hd2 HT1;go_wp2_with fail;go_roundw
   .exact⟨k+1,by omega,by go_num,hG1,hO1⟩
   .simp[intOf];omega
  .have hk1:¬(k:Int)<(n:Int):=by omega
   have hkn:k=n:=by omega
   have hcv:(convert 94 9 u3).run prog wr=.ok (.string (bs (dF l))) wr:=by
    have h:=hO.str;rw[hkn,HE.out]at h;exact h
   clear hkn;go_wp2_with fail;go_ret;exact⟨rfl,hG⟩
def cS.row{w:aB}{g o n:Nat}{l:aM}(h:cS w g o l)(b:l.length=n):hasRow w ⟨g,o,none⟩ n=true/\rowAt w ⟨g,o,none⟩ n=l.map cU:=by
 subst b;have a:∀i (hi:i<l.length),w.cell? (Addr.add ⟨g,o,none⟩ i)=some (cU l[i]):=fun i hi=>by rw[fO];exact h.2 i _ (cO hi)
 refine⟨kr.2 fun i hi=>by rw[a i hi];rfl,?_⟩;apply rD;intro i;simp only[rowAt,fo];by_cases hi:i<l.length
 .rw[qf hi,cO hi,jm,jm,a i hi];rfl
 .rw[kZ (by simp;omega),kZ (by omega)];rfl
def cS.str{w:aB}{g o n:Nat}{l:aM}(h:cS w g o l)(c:Nat)(b:l.length=n):(convert 94 9 (.slice (some ⟨g,o,none⟩) n c)).run prog w=.ok (.string (bs l)) w:=by
 subst b;exact CK w 94 9 5 ⟨g,o,none⟩ c l underlying94 underlying5 underlying9 (fun j a=>by rw[fO];exact h.2 j _ (cO a))
def EA(s:aJ)(n:Nat)(i:s.size=n)(w:aB):∃c a,(convert 9 94 (.string s)).run prog w=.ok (.slice (some ⟨w.heap.size,0,none⟩) n c) a/\Gr w a/\cS a w.heap.size 0 (bl s)/\n<=c:=by
 subst i;have h:=run_bytes_of_string w 9 94 5 s underlying9 underlying94 underlying5;refine⟨_,_,h,((Gr.refl w).drew).alloc _,⟨by simp,fun j x b=>?_⟩,A' _ _ _ _⟩;have d:=(nG.1 b).1;have g:(w.drew.alloc (.cells (bytesRow s (grownCap w s.size 0 5)) 5 ((bytesRow s (grownCap w s.size 0 5)).size,(bytesRow s (grownCap w s.size 0 5)).size+1))).heap[w.heap.size]? =some (.cells (bytesRow s (grownCap w s.size 0 5)).toList.toArray 5 ((bytesRow s (grownCap w s.size 0 5)).size,(bytesRow s (grownCap w s.size 0 5)).size+1)):=cM w.drew _
 rw[fB,bH g,tv];unfold bytesRow
 have f:j<s.data.size:=by
  have e:s.data.size=(bl s).length:=by simp[bl]
  rw[e];exact d
 rw[Array.getElem?_append_left (by simpa using f),Array.getElem?_map,ED f];have k:(bl s)[j]? =s.data[j]? :=by unfold bl;rw[tv]
 rw[k,ED f]at b;rw[<-iP b];rfl
def ES(i:Id):(dF i.toList).length=64:=by rw[qv];simp
def sW(i:Id):Vector UInt8 64:=lX 64 (dF i.toList)
def Mu(i:Id):(sW i).toList=dF i.toList:=rM (ES i)
def Cb:Vector UInt8 64:=Vector.replicate 64 0
@[go_sem] def ag7:dZ prog 250 =true:=by kernel_rfl
@[go_sem] def ahV:prog.cellsOf 250 =64:=by kernel_rfl
@[go_sem ↓ high] def aeU (w:aB):Sem.run prog (zeroValue 250) w=.ok (.agg (bC Cb).toArray) w:=by kernel_rfl
@[go_sem ↓ high] def ahi (w:aB) (t:TypeId) (b:Nat) (x y:Vector UInt8 64) (a:b=w.heap.size):(w.alloc (.cells (bC x).toArray t)).setCells b 0 (bC y)=w.alloc (.cells (bC y).toArray t):=by
 have e:=qO w t b a [] (bC y) [] (bC x) (by rw[a_,a_]);simpa using e
def Y4(a:Addr)(l c:Nat)(h:64<=l)(w:aB):(Instr.arrayAt 250 (.slice (some a) l c)).run prog w=.ok (.pointer (some a)) w:=by
 simp[Instr.arrayAt,lQ underlying250];omega
def Tc(i:Id)(w:World):Calls prog 199 #[.agg (bC i).toArray] w fun e w'=>e=.returned (.agg (bC (sW i)).toArray)/\Gr w w':=by
 have q:=((Gr.refl w).alloc (.cells (bC i).toArray 26)).alloc (.cells (bC Cb).toArray 250);have p:=aA (lh w (.cells (bC i).toArray 26) (.cells (bC Cb).toArray 250));have k:=aA (acg w.heap.size 0 32 i.toList _ (by simp) (cS.vec (pg w (.cells (bC i).toArray 26) (.cells (bC Cb).toArray 250))));have g:i.toList.length=32:=by simp
 rw[g]at k;have C:Hid ((bs (dF i.toList)).size=64):=by show _=_;show(dF i.toList).toArray.size=64;rw[bQ,ES]
 have B:=aA (Mu i);have o:=aA q;clear g q;go_in;go_wp2_with fail;refine k.mono ?_;rintro e u ⟨rfl,d⟩;have m:=aA ((d.block (b:=w.heap.size+1) (by simp)).trans p);have y:=aA (o.trans d);obtain⟨c,F,D,f,a,H⟩:=EA (bs (dF i.toList)) 64 C.out u;rw[oQ]at a;obtain⟨I,E⟩:=a.row (n:=64) (ES i);have t:bC (sW i)=(dF i.toList).map cU:=by unfold bC;rw[B.out];rfl
 rw[<-t]at E;have r:=Y4 ⟨u.heap.size,0,none⟩ 64 c (aU _);have j:=(f.block (b:=w.heap.size+1) (bY.1 m).1).trans m;have u1:=aP j 0 64 (by rw[a_];decide);have G:=bE j 0 64;have v:=aA (bO (cs:=bC (sW i)) j (by rw[a_,a_]));have z:=aA ((y.trans f).setsOwn (b:=w.heap.size+1) (by omega) (bC (sW i)) 0);generalize bs (dF i.toList)=s at*
 generalize h:sW i=x at*
 have l:=aA h;clear h;clear t j a d f k p o;go_wp2_with fail;refine bI (dY rfl _ _ (w.heap.size+1) _ _ _ _ rfl v underlying250 rfl (by rw[bQ,a_];kernel_rfl)) rfl ?_;exact⟨by rw[l.out],z⟩
def JK(i:Id)(w:aB):Calls prog 164 #[.agg (bC i).toArray] w (RG w (.string (bs (ic i)))):=by
 have h:=(Gr.refl w).alloc (.cells (bC i).toArray 26);have g:=aA (Tc i (w.alloc (.cells (bC i).toArray 26)));have l:=aA (Mu i);have d:=aA h;clear h;have m:Hid (⟨#[60]⟩++bs (sW i).toList++⟨#[64,104,97,115,104,62]⟩=bs (ic i)):=by
  show _=_;rw[l.out,show(⟨#[60]⟩:aJ)=bs [60]from rfl,show(⟨#[64,104,97,115,104,62]⟩:aJ)=bs jK from rfl,iY,iY];rfl
 generalize sW i=x at*
 have p:(bs x.toList).size=64:=by show x.toList.toArray.size=64;simp
 go_in;go_wp2_with fail;refine g.mono ?_;rintro e c ⟨rfl,b⟩;have f:=aA (d.trans b);have j:=(Gr.refl c).alloc (.cells (bC x).toArray 250);have a:cS (c.alloc (.cells (bC x).toArray 250)) c.heap.size 0 x.toList:=cS.vec (cM c _);have o:=a.str (n:=64) 64 (by simp);have k:=aA (f.trans j);clear b f j a d g;go_wp2_with fail;go_ret;exact⟨by rw[m.out];rfl,k⟩
end Go.Proofs.YtjfaogajmoffoaaGreatDoor
