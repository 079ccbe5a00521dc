/- Lemmas for VerifyStatus. -/
import Derived.Test.YtjfaogajmoffoaaGreatDoorQBE
set_option maxRecDepth 100000
set_option maxHeartbeats 16000000
set_option linter.all false
namespace Go.Proofs.YtjfaogajmoffoaaGreatDoor
open Go.RowKit Tryz
def NW:∀c:UInt8,fE c=(decide (48<=(c.toNat:Int))&&decide ((c.toNat:Int)<=57)||decide (97<=(c.toNat:Int))&&decide ((c.toNat:Int)<=102)):=qA (by decide+kernel)
def aaK(c:Int)(w:aB):Calls prog 193 #[.int .u8 c] w fun e w'=>e=.returned (.bool (decide (48<=c)&&decide (c<=57)))/\w=w':=by
 go_in;go_wp2;all_goals
  go_ret;refine⟨eU ?_,rfl⟩;first|(simp_all;done)|(simp_all;omega)
def OA(c:UInt8)(w:aB):Calls prog 313 #[.int .u8 (c.toNat:Int)] w fun e w'=>e=.returned (.bool (fE c))/\w=w':=by
 have a:=aA (NW c);generalize fE c=r at*
 generalize(c.toNat:Int)=n at*
 go_in;go_wp2_with (go_at_call 193;refine dK (aaK _ _) ?_);all_goals
  go_ret;refine⟨eU ?_,rfl⟩;rw[a.out];first|(simp_all;done)|(simp_all;omega)
def jj(k:Nat)(c:UInt8):Bool:=if k<1 then c==60 else if k<65 then fE c else c==jK.getD (k-65) 0
def QG:∀i:Fin 6,(⟨#[64,104,97,115,104,62]⟩:aJ)[i.val]'(i.isLt)=jK.getD i.val 0:=by decide+kernel
def Mb(q:Nat)(a:q<6)(w:aB):(Instr.index 9 (.string ⟨#[64,104,97,115,104,62]⟩) (.int .i64 (q:Int))).run prog w=.ok (.int .u8 ((jK.getD q 0).toNat:Int)) w:=by
 rw[AB w 9 _ .i64 _ underlying9,dif_pos (by constructor<;>(first|omega|(show(q:Int)<6;omega)))];have h:=QG ⟨q,a⟩;simp only[m_];rw[h]
def Gp(a b:UInt8):((a.toNat:Int)==(b.toNat:Int))=(a==b):=by
 rw[kE,lu,lu];exact⟨fun h=>lP.1 (by omega),fun h=>by rw[h]⟩
def Wl(k:Nat)(c:UInt8)(w:aB)(h:k<71):Calls prog 300 #[.int .i64 (k:Int),.int .u8 (c.toNat:Int)] w fun e w'=>e=.returned (.bool (jj k c))/\w=w':=by
 by_cases a:k<1
 .have e:jj k c=((c.toNat:Int)==60):=by unfold jj;rw[aG a];exact(Gp c 60).symm
  obtain rfl:k=0:=by omega
  rw[e];generalize(c.toNat:Int)=n at*
  go_in;go_wp2_with fail;go_ret;exact⟨rfl,rfl⟩
 .have j:¬(k:Int)<1:=by omega
  by_cases b:k<65
  .have e:jj k c=fE c:=by unfold jj;rw[aF a,aG b]
   have g:(k:Int)<65:=by omega
   rw[e];have d:Hid (∀W,Calls prog 313 #[.int .u8 (c.toNat:Int)] W fun e w'=>e=.returned (.bool (fE c))/\W=w'):=OA c;go_in;go_wp2_with (go_at_call 313;refine dK (d _) ?_);go_ret;exact⟨rfl,rfl⟩
  .obtain⟨q,rfl⟩:∃q,k=q+65:=⟨k-65,by omega⟩
   have e:jj (q+65) c=((c.toNat:Int)==((jK.getD q 0).toNat:Int)):=by unfold jj;rw[aF a,aF b,Gp,yy]
   have g:¬((q+65:Nat):Int)<65:=by omega
   have f:IntKind.i64.wrap (((q+65:Nat):Int)-1)=((q+65:Nat):Int)-1:=by rw[cV];omega
   have i:=Mb q (by omega);have l:(q:Int)+65-1-64=(q:Int):=by omega
   rw[e];go_in;go_wp2_with fail;go_ret;exact⟨rfl,rfl⟩
def Ke(c:UInt8)(W:aB):Calls prog 302 #[.string ⟨#[48,49,50,51,52,53,54,55,56,57,97,98,99,100,101,102]⟩,.int .u8 (c.toNat:Int)] W fun e w'=>e=.returned (.int .i64 (fq c))/\w'=W:=by
 have h:=Tryz.strings_IndexByte ⟨#[48,49,50,51,52,53,54,55,56,57,97,98,99,100,101,102]⟩ (c.toNat:Int) W;have e:((c.toNat:Int)).toNat.toUInt8=c:=by simp
 rw[e]at h;exact h
def Tw(c:UInt8)(w:aB):Calls prog 314 #[.int .u8 (c.toNat:Int)] w fun e w'=>e=.returned (.bool (fE c))/\w=w':=by
 have b:Hid (∀W,Calls prog 302 #[.string ⟨#[48,49,50,51,52,53,54,55,56,57,97,98,99,100,101,102]⟩,.int .u8 (c.toNat:Int)] W fun e w'=>e=.returned (.int .i64 (fq c))/\w'=W):=Ke c;have a:Hid (fE c=decide (0<=fq c)):=rfl;generalize fq c=v at*
 generalize(c.toNat:Int)=n at*
 go_in;go_wp2_with (go_at_call 302;refine(b _).mono ?_;rintro e w' ⟨rfl,rfl⟩);go_ret;exact⟨eU a.symm,rfl⟩
def T'(c:UInt8)(w:aB)(h:fE c=true):Calls prog 316 #[.int .u8 (c.toNat:Int)] w fun e w'=>e=.returned (.int .u8 ((fY c).toNat:Int))/\w=w':=by
 have b:Hid (∀W,Calls prog 302 #[.string ⟨#[48,49,50,51,52,53,54,55,56,57,97,98,99,100,101,102]⟩,.int .u8 (c.toNat:Int)] W fun e w'=>e=.returned (.int .i64 (fq c))/\w'=W):=Ke c;obtain⟨_,i,d⟩:=uv c h;have g:0<=fq c:=by unfold fE at h;simpa using h
 obtain⟨m,f,a⟩:∃m:Nat,fq c=(m:Int)/\(fY c).toNat=m:=⟨(fq c).toNat,by omega,d⟩;rw[f]at b;have j:IntKind.u8.wrap (m:Int)=(m:Int):=by rw[gg];omega
 rw[a];clear h g i d f a;generalize(c.toNat:Int)=n at*
 go_in;go_wp2_with (go_at_call 302;refine(b _).mono ?_;rintro e w' ⟨rfl,rfl⟩);go_ret;exact⟨rfl,rfl⟩
def Tv(s:aJ)(w:aB)(f:(bl s).all fE=true)(n:s.size<=1000000):Calls prog 315 #[.string s,.int .i64 0,.func (.func 314) #[] #[]] w fun e w'=>e=.returned (.int .i64 (s.size:Int))/\w=w':=by
 have m:∀args w,(callFunc 314 args).run prog w=.ok (.enter 314 args) w:=lV func314 (by kernel_rfl) rfl
 have g:Hid (∀k (a:k<s.size),∀W,Calls prog 314 #[.int .u8 (s[k].toNat:Int)] W fun e w'=>e=.returned (.bool true)/\W=w'):=fun k a W=>by
  have h:=Tw s[k] W
  rw[gY.1 f s[k] (by
   have e:(bl s)[k]'(by rw[bN];exact a)=s[k]:=rfl
   rw[<-e];exact kA _)]at h
  exact h
 go_in;go_wp2_with fail
 go_loop [1,7,8,9,10,11,12,13,14,15,16,17,18,19] (fun i _ _ _ _ _ _ _ _ _ _ _ _ _=>∃k:Nat,k<=s.size/\i=.int .i64 k) (fun i _ _ _ _ _ _ _ _ _ _ _ _ _=>s.size-(intOf i).toNat)
 .exact⟨0,bW _,rfl⟩
 .
  obtain⟨k,a,rfl⟩:=hrel;by_cases d:k<s.size
  .have b:(k:Int)<(s.size:Int):=by omega
   have l:=nn k
   have j:=aA (g k d);go_wp2_with (go_at_call 314;refine dK (j _) ?_)
   go_round
   .exact⟨k+1,by omega,by go_num⟩
   .simp[intOf];omega
  .have b:¬(k:Int)<(s.size:Int):=by omega
   have c:k=s.size:=by omega
   subst c;go_wp2_with fail;go_ret;exact⟨rfl,rfl⟩
def ZX(s:aJ)(m:Nat)(w:aB)(hs:s.size=2*m)(hm:m<=1000)(hh:(bl s).all fE=true):Calls prog 301 #[.string s] w fun e w'=>∃v,e=.returned (.tuple #[v,.int .i64 0])/\aZ w' w.heap.size v (gK (bl s))/\Gr w w':=by
 have HSK:Hid (∀W,Calls prog 315 #[.string s,.int .i64 0,.func (.func 314) #[] #[]] W fun e w'=>e=.returned (.int .i64 (s.size:Int))/\W=w'):=fun W=>Tv s W hh (by omega);have eg:∀args w,(callFunc 316 args).run prog w=.ok (.enter 316 args) w:=enters_of func316 (by kernel_rfl) rfl
 have HB:Hid (∀k (hk:k<s.size),∀W,Calls prog 316 #[.int .u8 (s[k].toNat:Int)] W fun e w'=>e=.returned (.int .u8 ((fY s[k]).toNat:Int))/\W=w'):=fun k hk W=>
  T' s[k] W (List.all_eq_true.1 hh s[k] (by have e:(bl s)[k]'(by rw[bN];exact hk)=s[k]:=rfl;rw[<-e];exact List.getElem_mem _))
 have HU:Hid (∀j,j<m->(hj:2*j+1<s.size)->(gK (bl s)).take (j+1)=(gK (bl s)).take j++[fY s[2*j]<<<4|||fY s[2*j+1]]/\((gK (bl s)).take j).length=j):=fun j hj hj2=>by
  have hl:(gK (bl s)).length=m:=su m (bl s) (by rw[bN];exact hs);have hp:=CB j (bl s) (by rw[bN];exact hj2)
  have g:∀k (hk:k<s.size),(bl s).getD k 0=s[k]:=fun k hk=>by
   rw[List.getD_eq_getElem?_getD,List.getElem?_eq_getElem (by rw[bN];exact hk)];rfl
  rw[g _ (by omega),g _ hj2,List.getElem?_eq_getElem (by omega)]at hp;refine⟨by rw[List.take_succ_eq_append_getElem (by omega),Option.some.inj hp],by rw[List.length_take];omega⟩
 have HA:Hid ((gK (bl s)).take m=gK (bl s)):=by
  show _=_;rw[List.take_of_length_le];rw[su m (bl s) (by rw[bN];exact hs)];exact Nat.le_refl _
 have HX:Hid (∀c:UInt8,(fY c).toNat<256):=fun c=>(fY c).toNat_lt
 have HH:Hid (∀k (hk:k<s.size),(fY s[k]).toNat<16):=fun k hk=>by
  obtain⟨_,h2,h3⟩:=uv s[k] (List.all_eq_true.1 hh s[k] (by have e:(bl s)[k]'(by rw[bN];exact hk)=s[k]:=rfl;rw[<-e];exact List.getElem_mem _))
  omega
 have hsi:(s.size:Int)=2*(m:Int):=by omega
 have hmk:∀w,(Instr.makeSlice 94 (.int .i64 0) (.int .i64 (m:Int))).run prog w=.ok (.slice (some ⟨w.heap.size,0,none⟩) 0 m) (w.alloc (.cells (madeCells #[.int .u8 0] m) 5)):=xp m (by omega);have hd2:(2*(m:Int))/2=(m:Int):=by omega
 have hr2:(2*(m:Int))%2=0:=by omega
 have HF:=Lib.hid (aZ.fresh w w.heap.size m w.heap.size rfl (Nat.le_refl _) (by omega));have HG:=Lib.hid ((Gr.refl w).alloc (.cells (madeCells #[.int .u8 0] m) 5));clear hh;go_in;go_wp2_with (go_at_call 315;refine(HSK _).mono ?_;rintro e w' ⟨rfl,rfl⟩)
 go_loopw [6,7] (fun v i wr=>∃j:Nat,j<=m/\i=.int .i64 (2*(j:Int))/\Hid (Gr w wr)/\Hid (aZ wr w.heap.size v ((gK (bl s)).take j))) (fun _ i _=>2*m-(intOf i).toNat)
 .exact⟨0,Nat.zero_le _,rfl,HG,HF⟩
 .
  obtain⟨j,hj,rfl,hG,hO⟩:=hrel;by_cases hlt:j<m
  .have hk1:2*(j:Int)<2*(m:Int):=by omega
   have hk2:(0:Int)<=2*(j:Int):=by omega
   have hk3:(0:Int)<=2*(j:Int)+1:=by omega
   have hk4:2*(j:Int)+1<2*(m:Int):=by omega
   have hn1:(2*(j:Int)).toNat=2*j:=by omega
   have hn2:(2*(j:Int)+1).toNat=2*j+1:=by omega
   have hj1:2*j<s.size:=by omega
   have hj2:2*j+1<s.size:=by omega
   have hwk:IntKind.i64.wrap (2*(j:Int)+1)=2*(j:Int)+1:=by rw[IntKind.wrap_i64];omega
   obtain⟨hT,hlen⟩:=HU.out j hlt hj2;have HT:=Lib.hid hT.symm;have HLN:=Lib.hid hlen;have H1:=Lib.hid (HB (2*j) hj1);have H2:=Lib.hid (HB (2*j+1) hj2);have hor:=Lu (fY s[2*j]) (fY s[2*j+1]) (HH _ hj2);have hx1:=(fY s[2*j]).toNat_lt;generalize fY s[2*j]<<<4|||fY s[2*j+1]=y at*
   generalize(fY s[2*j]).toNat=x1 at*
   generalize(fY s[2*j+1]).toNat=x2 at*
   have hwx:IntKind.u8.wrap ((x1:Int)*16)=(x1:Int)*16%256:=IntKind.wrap_u8 _;generalize(gK (bl s)).take j=ds at*
   clear hT hlen;go_wp2_with fail;apply rH (R:=fun x n W=>Hid (Gr w W)/\Hid (aZ W w.heap.size (.slice x (j+1) n) (ds++[y])))
   case h=>
    go_region_held_law (fun _=>True) (trivial)
     (first
      |(go_at_call 316;refine(H1 _).mono ?_;rintro e w' ⟨rfl,rfl⟩)
      |(go_at_call 316;refine(H2 _).mono ?_;rintro e w' ⟨rfl,rfl⟩)
      |(refine wa rfl 45 rfl (.tmp 30) (.tmp 44) rfl w.heap.size u6 ds (by simp[Act.eval]) (hO.gr ((Gr.refl wr).drew.alloc _)) (.slice (some ⟨wr.heap.size,0,none⟩) 1 1) [y] (by simp[Act.eval]) (aZ.made (l:=[y]) (heap_alloc_new wr.drew _) (by have:=hG.size;omega) (by simp)) (j+1) (by rw[HLN.out];rfl) (by omega) (by have:=hG.size;simp;omega) ?_;intro a1 c1 w1 ho1 hg1))
    all_goals exact⟨a1,c1,⟨((hG.drew.alloc _).grown hg1 (fun q hq=>(World.ownsRow.lt hO q hq).1)),ho1⟩,rfl⟩
   rintro x1' n1 W1 ⟨hG1,hO1⟩;rw[HT.out]at hO1;have hn3:IntKind.i64.wrap (2*(j:Int)+2)=2*(j:Int)+2:=by rw[IntKind.wrap_i64];omega
   clear hor hx1 hwx hwk;go_wp2_with fail;go_roundw
   .exact⟨j+1,by omega,by go_num,hG1,hO1⟩
   .simp[intOf];omega
  .have hk1:¬2*(j:Int)<2*(m:Int):=by omega
   have hjm:j=m:=by omega
   have hOE:Hid (aZ wr w.heap.size u6 (gK (bl s))):=by show aZ _ _ _ _;rw[<-HA.out,<-hjm];exact hO
   clear hjm;go_wp2_with fail;go_ret2;exact⟨u6,rfl,hOE,hG⟩
def tb(s:aT)(w:aB)(e:Ending)(w':aB):Prop:=∃a b:Int,e=.returned (.tuple #[aE (bC (eI s)),.int .i64 a,.int .i64 b])/\(b=0↔ix s=true)/\Gr w w'
def Ej{s:aT}(h:ix s=false):eI s=bM:=by unfold eI;rw[aF (by rw[h];decide)]
def I6(s:aT):ix s=true↔s.length=71/\∀k,k<71->jj k (s.getD k 0)=true:=by
 constructor
 .intro h
  obtain⟨a,f,o⟩:=EC h;refine⟨a,fun k l=>?_⟩;unfold ix at h;simp only[fH,iK]at h;obtain⟨⟨⟨_,p⟩,_⟩,q⟩:=h;have j:s.drop 65=jK:=by simpa using q
  unfold jj;by_cases m:k<1
  .rw[aG m]
   obtain rfl:k=0:=by omega
   rw[eD,<-List.head?_eq_getElem?]
   cases s with
   |nil=>simp at a
   |cons c s=>exact p
  .rw[aF m]
   by_cases n:k<65
   .rw[aG n]
    have d:s.getD k 0∈(s.drop 1).take 64:=by
     rw[eD,cO (by omega),nj];refine List.mem_of_getElem? (i:=k-1) ?_;rw[mi,aG (by omega),kM,show 1+(k-1)=k by omega,cO (by omega)]
    exact gY.1 o _ d
   .rw[aF n,<-j,eD,eD,kM,show 65+(k-65)=k by omega]
    simp
 .rintro⟨a,f⟩
  unfold ix;simp only[fH,iK];have g:∀k (l:k<71),s.getD k 0=s[k]'(by omega):=fun k l=>by rw[eD,cO (by omega),nj]
  refine⟨⟨⟨a,?_⟩,?_⟩,?_⟩
  .have:=f 0 (aH rfl)
   unfold jj at this;rw[aG (aH rfl)]at this
   cases s with
   |nil=>simp at a
   |cons c s=>exact this
  .refine gY.2 fun c hc=>?_
   obtain⟨i,hi⟩:=List.getElem?_of_mem hc;rw[mi]at hi;by_cases b:i<64
   .rw[aG b,kM]at hi
    have:=f (1+i) (by omega);unfold jj at this;rw[aF (by omega),aG (by omega),eD,hi,nj]at this;exact this
   .rw[aF b]at hi;cases hi
  .have e:s.drop 65=jK:=by
    apply rD;intro i;rw[kM];by_cases hi:i<6
    .have:=f (65+i) (by omega)
     unfold jj at this;rw[aF (by omega),aF (by omega),lu,show 65+i-65=i by omega]at this;have d:i<jK.length:=hi;rw[eD,cO (by omega),nj,eD,cO d,nj]at this;rw[cO (by omega),cO d,this]
    .have d:¬i<jK.length:=hi
     rw[kZ (by omega),kZ (by omega)]
   rw[e];decide
@[go_sem ↓ high] def ag8 (w:aB):Sem.run prog (zeroValue 26) w=.ok (aE (bC bM)) w:=by kernel_rfl
def adG(a:Addr)(l c:Nat)(h:32<=l)(w:aB):(Instr.arrayAt 26 (.slice (some a) l c)).run prog w=.ok (.pointer (some a)) w:=by
 simp[Instr.arrayAt,lQ underlying26];omega
def zV(s:aJ):bl (s.extract 1 65)=((bl s).drop 1).take 64:=by
 unfold bl;rw[xI,yA,yI]
def Ub(s:aJ)(w:aB):Calls prog 279 #[.string s] w (tb (bl s) w):=by
 have I:=cM w (aC (bC bM) 26);have hr:=aP I 0 32 (by rw[a_];decide);have hf:=bE I 0 32;have r:=aA (bO (cs:=bC bM) I rfl);have U:=(Gr.refl w).alloc (aC (bC bM) 26);have t:=aA (U.setsOwn (b:=w.heap.size) (aU _) (bC bM) 0);have G0:=aA U;have R:=aA I;have m:=aA (I6 (bl s));have M:=bN s;rw[M]at m
 have G:Hid (∀k (F:k<s.size),(bl s).getD k 0=s[k]):=fun k F=>by
  rw[eD,cO (by rw[bN];exact F)];rfl
 clear I U M;go_in;go_wp2_with fail;generalize w.alloc (aC (bC bM) 26)=W0 at*
 go_loop [5,10,11,12,13,14,15,16,17,18,21] (fun _ i _ _ _ _ _ _ _ _ _=>∃k:Nat,k<=min s.size 71/\i=.int .i64 k/\Hid (∀j,j<k->jj j ((bl s).getD j 0)=true)) (fun _ i _ _ _ _ _ _ _ _ _=>71-(intOf i).toNat)
 .exact⟨0,bW _,rfl,fun j V=>absurd V (lZ _)⟩
 .
  obtain⟨k,F,rfl,E⟩:=hrel;by_cases D:k<min s.size 71
  .have X:k<s.size:=by omega
   have L:(k:Int)<min (s.size:Int) 71:=by omega
   have a1:=nn k
   have a2:(k:Int)<(s.size:Int):=by omega
   have N:=aA (Wl k s[k] · (by omega));have z:=G k X
   cases hft:jj k s[k]with
   |false=>
    have a:ix (bl s)=false:=by
     cases h:ix (bl s)with
     |false=>rfl
     |true=>
      have:=(m.1 h).2 k (by omega);rw[z,hft]at this;cases this
    have O:=aA (Ej a);have f:=aA a;rw[hft]at N;clear z hft a E;go_wp2_with (go_at_call 300;refine dK (N _) ?_);refine bI (gn (p:=2) (u1:=3) (u2:=4) rfl _ _ w.heap.size _ _ _ _ rfl r underlying26 rfl (by rw[bQ,a_];kernel_rfl)) rfl ?_;exact⟨k,6,by rw[O.out];rfl,by rw[f.out];simp,t⟩
   |true=>
    have Q:Hid (∀j,j<k+1->jj j ((bl s).getD j 0)=true):=fun j V=>by
     by_cases h:j<k
     .exact E j h
     .obtain rfl:j=k:=by omega
      rw[z];exact hft
    rw[hft]at N;clear z hft E;go_wp2_with (go_at_call 300;refine dK (N _) ?_)
    go_round
    .exact⟨k+1,by omega,by go_num,Q⟩
    .simp[intOf];omega
  .have L:¬(k:Int)<min (s.size:Int) 71:=by omega
   by_cases l:s.size=71
   .have W:k=71:=by omega
    have a:ix (bl s)=true:=m.2 ⟨l,fun j V=>E j (by omega)⟩;have Y:(s.extract 1 65).size=2*32:=by
     rw[<-bN,zV,dP,eh,bN,l];rfl
    obtain⟨-,-,B⟩:=EC a;have y:=aA (ZX (s.extract 1 65) 32 W0 Y (aH rfl) (by rw[zV];exact B));rw[zV]at y;have d:(gK (((bl s).drop 1).take 64)).length=32:=su 32 _ (by rw[<-zV,bN];exact Y);have q:bC (eI (bl s))=(gK (((bl s).drop 1).take 64)).map cU:=by
     unfold eI;rw[aG a];unfold bC;rw[rM d];rfl
    have f:=aA a;have a4:(s.size:Int)=71:=by omega
    have a3:(k:Int)=71:=by omega
    obtain⟨ds,K⟩:=ex (gK (((bl s).drop 1).take 64));rw[K]at y d q;have u:=aA d;have S:=aA q;clear W a E Y B K d q m G F D l L;go_wp2_with fail;refine y.mono ?_;rintro e w2 ⟨v,rfl,hv,C⟩;obtain⟨g,c,rfl,hc,hg,_,o⟩:=hv.cells (by intro e;have:=u.out;rw[e]at this;cases this);have J:cS w2 g 0 ds:=⟨hg,o⟩;obtain⟨r1,r2⟩:=J.row (n:=32) u.out;rw[<-S.out]at r2;have Z:=adG (aD g 0) 32 c (aU _);have P:=(C.block (bY.1 R).1).trans R;have u1:=aP P 0 32 (by rw[a_];decide);have f1:=bE P 0 32;have B2:=aA (bO (cs:=bC (eI (bl s))) P (by rw[a_,a_]));have G2:=aA ((G0.trans C).setsOwn (b:=w.heap.size) (aU _) (bC (eI (bl s))) 0);rw[u.out]at hc;simp only[u.out];have H:Hid (∀T,Gr w T->tb (bl s) w (.returned (.tuple #[aE (bC (eI (bl s))),.int .i64 0,.int .i64 0])) T):=fun T h=>⟨0,0,rfl,by rw[f.out];simp,h⟩;generalize eI (bl s)=x at*
    clear P J o hv C y hr hf R r t;go_wp2_with fail;refine bI (gn (p:=2) (u1:=3) (u2:=4) rfl _ _ w.heap.size _ _ _ _ rfl B2 underlying26 rfl (by rw[bQ,a_];kernel_rfl)) rfl ?_;exact H _ G2
   .have a:ix (bl s)=false:=by
     cases h:ix (bl s)with
     |false=>rfl
     |true=>exact absurd (m.1 h).1 l
    have O:=aA (Ej a);have f:=aA a;clear a E;by_cases h1:s.size<71
    .have h2:(s.size:Int)<71:=by omega
     clear l D F;go_wp2_with fail;refine bI (gn (p:=2) (u1:=3) (u2:=4) rfl _ _ w.heap.size _ _ _ _ rfl r underlying26 rfl (by rw[bQ,a_];kernel_rfl)) rfl ?_;exact⟨s.size,4,by rw[O.out];rfl,by rw[f.out];simp,t⟩
    .have h2:¬(s.size:Int)<71:=by omega
     have h3:71<(s.size:Int):=by omega
     clear l D F h1;go_wp2_with fail;refine bI (gn (p:=2) (u1:=3) (u2:=4) rfl _ _ w.heap.size _ _ _ _ rfl r underlying26 rfl (by rw[bQ,a_];kernel_rfl)) rfl ?_;exact⟨71,5,by rw[O.out];rfl,by rw[f.out];simp,t⟩
@[go_sem ↓ high] def afH (w:aB) (t:TypeId) (b:Nat) (x y:Id) (a:b=w.heap.size):(w.alloc (aC (bC x) t)).setCells b 0 (bC y)=w.alloc (aC (bC y) t):=by
 have e:=qO w t b a [] (bC y) [] (bC x) (by rw[a_,a_]);simpa using e
def An{w a:aB}{row:Option Nat}(h:w.grownBy a row){b:Nat}(c:w.heap.size<=b)(l:bF)(k:Nat):w.grownBy (a.setCells b k l) row:=ko c l k a h
def JQ(b:Nat)(s:aJ)(p:PS)(w:aB)(h:ec w b s p)(Y:dH (bl s) p)(hs:s.size<=1000000)(hE:ff w)(hb:4 <b):
  Calls prog 253 #[bZ b] w (tK b s (p.targetP s.size).1 w (aE (bC (p.targetP s.size).2))):=by
 have hz:=h.facts.2.2.2.2.2.2;have g0:=(Gr.refl w).alloc (aC (bC bM) 26);have HN:=aA (uJ b s p _ (h.gr g0) Y hs (hE.gr g0) hb);have HB:=aA (cM w (aC (bC bM) 26));have G0:=aA (dW (row:=some b) g0);have M:Hid (p.targetP s.size=if(p.next s.size).2.2=true then((p.next s.size).1.fail (p.next s.size).1.start (kH (p.next s.size).2.1),eI (p.next s.size).2.1)else((p.next s.size).1,bM)):=rfl;clear h Y hE g0;generalize p.next s.size=q at*
 obtain⟨z,x,ok⟩:=q;simp only at HN M
 cases ok with
 |false=>
  go_in;go_wp2_with fail;refine HN.mono ?_;rintro e w1 ⟨rfl,T,g⟩;have D:=eH g HB (by simp;omega);have u1:=aP D 0 32 (by rw[a_];decide);have f1:=bE D 0 32;have B2:=aA (bO (cs:=bC bM) D rfl);have J:=aA (T.other (cD (b:=w.heap.size) (i:=b) (by omega) (bC bM) 0 w1));have t:=aA (An (dG G0 g) (b:=w.heap.size) (aU _) (bC bM) 0);clear T g D HB G0;go_wp2_with fail;refine bI (dY rfl _ _ w.heap.size _ _ _ _ rfl B2 underlying26 rfl (by rw[bQ,a_];kernel_rfl)) rfl ?_;exact⟨by rw[M.out];rfl,by rw[M.out];exact J,t⟩
 |true=>
  have a1:Hid (∀W,Calls prog 279 #[.string (bs x)] W (tb x W)):=fun W=>by
   have h:=Ub (bs x) W;rwa[oQ]at h
  have j:=aA (show p.targetP s.size=(z.fail z.start (kH x),eI x) by rw[M.out,aG rfl])
  have C:Hid (kH x=if ix x=false then 3 else if eI x=bM then 1 else 0):=rfl;clear M;go_in;go_wp2_with fail;refine HN.mono ?_;rintro e w1 ⟨rfl,T,g⟩;have D:=eH g HB (by simp;omega);have J:=aA T;have B1:=aA D;have t:=aA (dG G0 g);clear T g D HB G0 HN;go_wp2_with fail;refine(a1 _).mono ?_;rintro e w2 ⟨a2,er,rfl,V,v⟩;have g3:=v.trans ((Gr.refl w2).alloc (aC (bC (eI x)) 26));have h3:=J.gr g3;have b3:=(g3.block (bY.1 B1).1).trans B1;have c3:=cM w2 (aC (bC (eI x)) 26);have f:=aA (dG t (dW (row:=some b) g3));have a4:w2.heap.size≠b:=fun e=>by have:=(bY.1 J).1;have:=v.size;omega
  have a5:w2.heap.size≠w.heap.size:=fun e=>by have:=(bY.1 B1).1;have:=v.size;omega
  have B:=aA h3;have o:=aA b3;have r:=aA c3;have L:=aA V;obtain⟨O,P,Q,R,S,_,z3⟩:=h3.facts;have Z:=aP c3 0 32 (by rw[a_];decide);have v2:=(bJ c3 0 32 (by rw[a_];decide)).trans (b_ _ _ (a_ (eI x)));clear v g3 h3 b3 c3 J B1 t V;by_cases d:ix x=false
  .have a3:(er != 0)=true:=by
    have:er≠0:=fun e=>by have:=L.1 e;rw[d]at this;cases this
    simp[this]
   have n:=aA (show kH x=3 by rw[C.out,aG d])
   clear d;go_wp2_with fail;refine(mH b s z z.start 3 _ B).mono ?_;rintro e w4 ⟨rfl,U,c⟩;have u:=eH c o (by simp;omega);have F:=eH c r (by simp;omega);have u1:=aP u 0 32 (by rw[a_];decide);have f1:=bE u 0 32;have k1:=aP F 0 32 (by rw[a_];decide);have k2:=(bJ F 0 32 (by rw[a_];decide)).trans (b_ _ _ (a_ (eI x)));have I:=aA (bO (cs:=bC (eI x)) u (by rw[a_,a_]));have K:=aA (U.other (cD (b:=w.heap.size) (i:=b) (by omega) (bC (eI x)) 0 w4));have l:=aA (An (dG f c) (b:=w.heap.size) (aU _) (bC (eI x)) 0);clear U c u F Z v2 O P Q R S z3;go_wp2_with fail;refine bI (dY rfl _ _ w.heap.size _ _ _ _ rfl I underlying26 rfl (by rw[bQ,a_];kernel_rfl)) rfl ?_;exact⟨by rw[j.out],by rw[j.out,n.out];exact K,l⟩
  .have G:ix x=true:=by simpa using d
   have X:=L.2 G;subst X;by_cases k:eI x=bM
   .have n:=aA (show kH x=1 by rw[C.out,aF d,aG k])
    have m:Hid (∀W,CG 167 #[aE (bC (eI x))] W (.bool true)):=fun W=>by
     have h:=xi (eI x) W;rwa[show(eI x==bM)=true by rw[k];exact beq_self_eq_true _]at h
    clear d G k;go_wp2_with fail;refine bA (m _) fun w5 a=>?_;have H:=B.gr a;have E:=(a.block (bY.1 o).1).trans o;have y:=(a.block (bY.1 r).1).trans r;have N:=aA (dG f (dW (row:=some b) a));clear O P Q R S z3 Z v2 B o r f a m;have B:=aA H;have o:=aA E;have r:=aA y;have f:=N;obtain⟨O,P,Q,R,S,_,z3⟩:=H.facts;have Z:=aP y 0 32 (by rw[a_];decide);have v2:=(bJ y 0 32 (by rw[a_];decide)).trans (b_ _ _ (a_ (eI x)));clear H E y N;go_wp2_with fail;refine(mH b s z z.start 1 _ B).mono ?_;rintro e w4 ⟨rfl,U,c⟩;have u:=eH c o (by simp;omega);have F:=eH c r (by simp;omega);have u1:=aP u 0 32 (by rw[a_];decide);have f1:=bE u 0 32;have k1:=aP F 0 32 (by rw[a_];decide);have k2:=(bJ F 0 32 (by rw[a_];decide)).trans (b_ _ _ (a_ (eI x)));have I:=aA (bO (cs:=bC (eI x)) u (by rw[a_,a_]));have K:=aA (U.other (cD (b:=w.heap.size) (i:=b) (by omega) (bC (eI x)) 0 w4));have l:=aA (An (dG f c) (b:=w.heap.size) (aU _) (bC (eI x)) 0);clear U c u F Z v2 O P Q R S z3;go_wp2_with fail;refine bI (dY rfl _ _ w.heap.size _ _ _ _ rfl I underlying26 rfl (by rw[bQ,a_];kernel_rfl)) rfl ?_;exact⟨by rw[j.out],by rw[j.out,n.out];exact K,l⟩
   .have n:=aA (show kH x=0 by rw[C.out,aF d,aF k])
    have m:Hid (∀W,CG 167 #[aE (bC (eI x))] W (.bool false)):=fun W=>by
     have h:=xi (eI x) W;rwa[show(eI x==bM)=false by rw[dI];exact k]at h
    clear d G k;go_wp2_with fail;refine bA (m _) fun w5 a=>?_;have H:=B.gr a;have E:=(a.block (bY.1 o).1).trans o;have y:=(a.block (bY.1 r).1).trans r;have u1:=aP E 0 32 (by rw[a_];decide);have f1:=bE E 0 32;have k1:=aP y 0 32 (by rw[a_];decide);have k2:=(bJ y 0 32 (by rw[a_];decide)).trans (b_ _ _ (a_ (eI x)));have I:=aA (bO (cs:=bC (eI x)) E (by rw[a_,a_]));have K:=aA (H.other (cD (b:=w.heap.size) (i:=b) (by omega) (bC (eI x)) 0 w5));have l:=aA (An (dG f (dW (row:=some b) a)) (b:=w.heap.size) (aU _) (bC (eI x)) 0);clear O P Q R S z3 Z v2 B o r f a m H E y;go_wp2_with fail;refine bI (dY rfl _ _ w.heap.size _ _ _ _ rfl I underlying26 rfl (by rw[bQ,a_];kernel_rfl)) rfl ?_;exact⟨by rw[j.out],by rw[j.out,n.out];show ec _ _ _ (z.fail z.start 0);rw[m9];exact K,l⟩
def NG{w:aB}{b:Nat}{c:Cm}{v:Value}{t:TypeId}(h:HB w b (aL c v) t) (i:Id):HB (w.setCells b 1 (bC i)) b (aL { c with target:=i } v) t:=
 qT b t ([Value.string c.group,.int .i64 c.version,.bool c.moderated,v,.string c.text,.int .i64 c.number]++aN c.height c.root) (bC i) [.int .i64 c.kind] (bC c.target) w (by rw[a_,a_]) h
def vi(n:Nat)(p:PS):PS×Cm:=((p.targetP n).1,{ aV 1 with target:=(p.targetP n).2 })
def vU(n:Nat)(p:PS):PS×Cm:=(((p.targetP n).1.groupP n).1,{ aV 2 with target:=(p.targetP n).2,group:=bs ((p.targetP n).1.groupP n).2 })
def Xl(b:Nat)(s:aJ)(p:PS)(w:aB)(h:ec w b s p)(c:dH (bl s) p)(y:s.size<=1000000)(o:ff w)(u:4 <b):
  Calls prog 252 #[bZ b] w (tZ b s (vi s.size p).1 w (vi s.size p).2):=by
 have C:=h.facts.2.2.2.2.2.2;have f:=(Gr.refl w).alloc (aC (aL (aV 0) bB) 87);have l:=aA (JQ b s p _ (h.gr f) c y (o.gr f) u);have j:=aA (cM w (aC (aL (aV 0) bB) 87));have k:=aA (dW (row:=some b) f);have m:Hid (vi s.size p=((p.targetP s.size).1,{ aV 1 with target:=(p.targetP s.size).2 })):=rfl;generalize p.targetP s.size=q at*
 obtain⟨D,i⟩:=q;simp only at l m;go_in;go_wp2_with fail;refine l.mono ?_;rintro e r ⟨rfl,n,a⟩;have d:=eH a j (by simp;omega);have B:=bE d 0 56;have E:=aP d 0 56 (by rw[cA];decide);have z:=aA (bO (cs:=aL { aV 1 with target:=i } bB) d (by rw[cA,cA]));have t:=aA (n.other (cD (b:=w.heap.size) (i:=b) (by omega) (aL { aV 1 with target:=i } bB) 0 r));have g:=aA (ko (b:=w.heap.size) (aU _) (aL { aV 1 with target:=i } bB) 0 r (dG k a));go_wp2_with fail;refine bI (v:=aE (aL { aV 1 with target:=i } bB)) (dY rfl _ _ w.heap.size _ _ _ _ rfl z underlying87 rfl (by rw[bQ,cA];kernel_rfl)) rfl ?_;rw[m.out];exact⟨none,0,0,rfl,jU _,(fun x hx=>by cases hx),t,g⟩
def Yx(b:Nat)(s:aJ)(p:PS)(w:aB)(h:ec w b s p)(l:dH (bl s) p)(hs:s.size<=1000000)(N:ff w)(O:4 <b):
  Calls prog 254 #[bZ b] w (tZ b s (vU s.size p).1 w (vU s.size p).2):=by
 have hz:=h.facts.2.2.2.2.2.2;have t:=((Gr.refl w).alloc (aC (aL (aV 0) bB) 87)).alloc (aC (aL (aV 2) bB) 87);have Y:=aA (JQ b s p _ (h.gr t) l hs (N.gr t) O);have V:=aA (pg w (aC (aL (aV 0) bB) 87) (aC (aL (aV 2) bB) 87));have W:=aA (lh w (aC (aL (aV 0) bB) 87) (aC (aL (aV 2) bB) 87));have X:=aA (dW (row:=some b) t);have HE:=aA N;have m:=aA (l.target s.size);have Z:Hid (vU s.size p=(((p.targetP s.size).1.groupP s.size).1,{ aV 2 with target:=(p.targetP s.size).2,group:=bs ((p.targetP s.size).1.groupP s.size).2 })):=rfl;generalize p.targetP s.size=q at*
 obtain⟨p1,i⟩:=q;simp only at Y Z m;go_in;go_wp2_with fail;refine Y.mono ?_;rintro e u ⟨rfl,h1,d⟩;have n:=eH d V (by simp;omega);have c:=eH d W (by simp;omega);have v1:=aP c 1 32 (by rw[cA];decide);have v2:=bE c 1 32;have H1:=aA h1;have C:=aA (dG X d);have z:=aA n;have B:=aA c;go_wp2_with fail;have k1:=NG B i;have k0:=(cD (b:=w.heap.size+1) (i:=w.heap.size) (by omega) (bC i) 1 u).trans z;have h2:=H1.other (cD (b:=w.heap.size+1) (i:=b) (by omega) (bC i) 1 u);have j:=ko (b:=w.heap.size+1) (by omega) (bC i) 1 u C;generalize u.setCells (w.heap.size+1) 1 (bC i)=W2 at*
 have HN:=aA (Fv b s p1 W2 h2 m hs (HE.grown j O) O);have D:=aA j;have G:=aA k1;have F:=aA k0;refine HN.mono ?_;rintro e w3 ⟨rfl,h3,f⟩;have c:=eH f G (by simp;omega);have n:=eH f F (by simp;omega);have a1:=ee c 33;obtain⟨c0,a2,H,I,J,K,L,M,r1,q1,T,R,U,S,r0,q0,z1⟩:=iX c;have H3:=aA h3;have E:=aA (dG D f);generalize p1.groupP s.size=q at*
 obtain⟨p2,g⟩:=q;have r:=CP c (bs g);have a:=(cG w3 (aD (w.heap.size+1) 33) w.heap.size (.string (bs g)) (by show w.heap.size≠w.heap.size+1;omega)).trans n;have h4:=aA (H3.other (cG w3 (aD (w.heap.size+1) 33) b (.string (bs g)) (by show b≠w.heap.size+1;omega)));have P:=aA (vo E (k:=w.heap.size+1) (o:=33) (by omega) (.string (bs g)));obtain⟨-,-,-,-,-,-,-,-,-,-,-,-,-,-,a4,a3,a5⟩:=iX r;have f0:=bE a 0 56;have u0:=aP a 0 56 (by rw[cA];decide);have y:=aA a;go_wp2_with fail;have hw:=bO (cs:=aL { aV 2 with target:=i,group:=bs g } bB) y (by rw[cA,cA]);have h5:=h4.other (cD (b:=w.heap.size) (i:=b) (by omega) (aL { aV 2 with target:=i,group:=bs g } bB) 0 _);have Q:=ko (b:=w.heap.size) (aU _) (aL { aV 2 with target:=i,group:=bs g } bB) 0 _ P;refine bI (v:=aE (aL { aV 2 with target:=i,group:=bs g } bB)) (dY rfl _ _ w.heap.size _ _ _ _ rfl hw underlying87 rfl (by rw[bQ,cA];kernel_rfl)) rfl ?_;rw[Z.out];exact⟨none,0,0,rfl,jU _,(fun x hx=>by cases hx),h5,Q⟩
def Yt{s:aT}{p:PS}(h:dH s p)(b:p.rest≠[]):p.fin<s.length:=by
 have c:=h.1;have a:=h.end_;have:p.fin≠s.length:=fun e=>b (a.2 e);omega
def adw(b:Nat)(s:aJ)(p:PS)(w:aB)(h:ec w b s p)(k:dH (bl s) p)(hs:s.size<=1000000):
  Calls prog 259 #[bZ b] w (tK b s (p.restP (bl s)).1 w (.string (bs (p.restP (bl s)).2))):=by
 obtain⟨c0,c1,c2,c3,c4,R,hz⟩:=h.facts;have a4:=R 1;have a5:=R 2;have f:=bN s;have a:=k.end_;rw[f]at a;have H:=aA h;by_cases F:p.e=0
 .by_cases K:p.rest=[]
  .have d:=aA (show p.restP (bl s)=(p,[]) by unfold PS.restP;rw[aG (.inr K)])
   have n:=a.1 K;rw[F]at c4;rw[n]at c2;clear a k R K n h f;go_in;go_wp2_with fail
   go_quiet (fail)
   go_wp2_with fail;go_ret;exact⟨by rw[d.out];rfl,by rw[d.out];exact H.gr ((Gr.refl w).drewN nq),dW ((Gr.refl w).drewN nq)⟩
  .have a6:=Yt k K
   rw[f]at a6;have d:Hid (p.restP (bl s)=(({ p with start:=p.fin+1,fin:=s.size,rest:=[] }:PS).fail (p.fin+1) (kT ((bl s).drop (p.fin+1))),(bl s).drop (p.fin+1))):=by
    show _=_;unfold PS.restP;rw[aF (by rintro(q|q);exact q F;exact K q),f]
   have a7:((p.fin:Int)==(s.size:Int))=false:=by simp;omega
   have a8:IntKind.i64.wrap ((p.fin:Int)+1)=(p.fin:Int)+1:=by rw[cV];omega
   rw[F]at c4;clear a k R K h f;go_in;go_wp2_with fail
   go_quiet (fail)
   go_wp2_with fail;have e1:((p.fin:Int)+1)=((p.fin+1:Nat):Int):=by omega
   have h2:=(ec.set2 (ec.set1 (H.gr ((Gr.refl w).drewN nq)) (p.fin+1)) s.size []);have G:=dG (dW (row:=some b) ((Gr.refl w).drewN nq)) (dG (lG (w.drewN nq) b 1 (.int .i64 ((p.fin+1:Nat):Int))) (lG _ b 2 (.int .i64 (s.size:Int))));rw[<-e1]at h2 G;have H2:=aA (h2.gr (Gr.refl _).drew);have M:=aA (dG G (dW (row:=some b) (Gr.refl _).drew));clear h2 G e1;apply qr (W:=(((w.drewN nq).setCell (aD b 1) (.int .i64 ((p.fin:Int)+1))).setCell (aD b 2) (.int .i64 (s.size:Int))).drew)
   case h=>
    go_region_law (fail);all_goals exact⟨rfl,rfl⟩
   have o:Hid (ec (((w.drewN nq).setCell (aD b 1) (.int .i64 ((p.fin:Int)+1))).setCell (aD b 2) (.int .i64 (s.size:Int))).drew b s { p with start:=p.fin+1,fin:=s.size,rest:=[] }):=H2;clear H2;generalize(((w.drewN nq).setCell (aD b 1) (.int .i64 ((p.fin:Int)+1))).setCell (aD b 2) (.int .i64 (s.size:Int))).drew=W2 at*
   obtain⟨z,m,B,C,D,_,L⟩:=o.out.facts;simp only at z m B C D
   have r:=aA (B9 s (p.fin+1));have a3:=aA (Gq s (p.fin+1));clear c0 c1 c2 c3 c4 hz a4 a5 H a7 a8;go_wp2_with fail
   go_quiet (fail)
   have t:=aA (dG M (dW (row:=some b) ((Gr.refl W2).drewN nq)));have i:=aA (o.gr ((Gr.refl W2).drewN nq));generalize hT:s.extract (p.fin+1) s.size=T at*
   obtain⟨J,I⟩:∃J:PS,({ p with start:=p.fin+1,fin:=s.size,rest:=[] }:PS)=J:=⟨_,rfl⟩;have X:J.start=p.fin+1:=by rw[<-I]
   rw[I]at i d;rw[<-r.out]at d;have N:=aA X;clear o M I X F z m B C D L hT;generalize W2.drewN nq=O at*
   obtain⟨z,m,B,C,D,_,L⟩:=i.out.facts;rw[N.out]at m;have y:Hid (∀W,Calls prog 283 #[.string T] W fun e w'=>e=.returned (.int .i64 (kY (bl T)))/\W=w'):=fun W=>Ua T W (by have:=a3.out;omega);by_cases c:bl T=[]
   .have Q:T.toList.isEmpty=true:=by rw[hI,c];rfl
    have l:kT (bl T)=4:=by unfold kT;rw[aG c]
    have Y:kY (bl T)=0:=by rw[c];rfl
    rw[l]at d;rw[Y]at y;have F4:=aA (mH b s J (p.fin+1) 4 O i);clear l Y c r;go_wp2_with fail;refine F4.mono ?_;rintro e W4 ⟨rfl,h4,S⟩;have V:(J.fail (p.fin+1) 4).start=p.fin+1:=by rw[<-N.out];unfold PS.fail;split<;>rfl
    have a2:=aA h4;have a1:=aA (dG t S);clear z m B C D L F4 i t S;obtain⟨z,m,B,C,D,_,L⟩:=h4.facts;rw[V]at m;clear h4 V;go_wp2_with fail;refine jd 7 (fun u=>∃p:LD,u=lw W4 p) (by kernel_rfl) (by kernel_rfl) (oO W4) ?_;simp only[gR,fy,ib,gd];repeat (go_big_quiet_step (first|(go_at_call 283;exact uO (y _))))
    refine cX ?_;rintro _ ⟨Z,rfl⟩;have E:=(j' W4 Z).1;have g:=aA (mH b s (J.fail (p.fin+1) 4) (p.fin+1) 0 _ (a2.gr E));have x:=aA (dG a1 (dW (row:=some b) E));clear E z m B C D L;generalize lw W4 Z=U at*
    go_wp2_with fail;refine g.mono ?_;rintro e W5 ⟨rfl,P,j⟩;have H5:=aA P;have v:=aA (dG x j);clear P j g;go_wp2_with fail;go_ret;exact⟨by rw[d.out];rfl,by rw[d.out];have:=H5.out;rw[m9]at this;exact this,v⟩
   .have Q:T.toList.isEmpty=false:=by rw[hI,tp];exact c
    have l:kT (bl T)=kY (bl T):=by unfold kT;rw[aF c]
    rw[l]at d;generalize kY (bl T)=er at*
    clear l c r;go_wp2_with fail;refine jd 7 (fun u=>∃p:LD,u=lw O p) (by kernel_rfl) (by kernel_rfl) (oO O) ?_;simp only[gR,fy,ib,gd];repeat (go_big_quiet_step (first|(go_at_call 283;exact uO (y _))))
    refine cX ?_;rintro _ ⟨Z,rfl⟩;have E:=(j' O Z).1;have g:=aA (mH b s J (p.fin+1) er _ (i.gr E));have x:=aA (dG t (dW (row:=some b) E));clear E z m B C D L;generalize lw O Z=U at*
    go_wp2_with fail;refine g.mono ?_;rintro e W5 ⟨rfl,P,j⟩;have H5:=aA P;have v:=aA (dG x j);clear P j g;go_wp2_with fail;go_ret;exact⟨by rw[d.out];rfl,by rw[d.out];exact H5,v⟩
 .have d:=aA (show p.restP (bl s)=(p,[]) by unfold PS.restP;rw[aG (.inl F)])
  have e2:(p.e != 0)=true:=by simp[F]
  clear a k R h F f;go_in;go_wp2_with fail
  go_quiet (fail)
  go_wp2_with fail;go_ret;exact⟨by rw[d.out];rfl,by rw[d.out];exact H.gr ((Gr.refl w).drewN nq),dW ((Gr.refl w).drewN nq)⟩
section
def fI(s:aJ):bP:=Lib.splitB ⟨#[44]⟩ 0 (Lib.countB s ⟨#[44]⟩) s
def KY(s:aJ):(fI s).length=Lib.countB s ⟨#[44]⟩+1:=Lib.splitB_all ⟨#[44]⟩ (aH rfl) 0 _ s rfl
def Es(s:aJ):(fI s).length<=s.size+1:=by rw[KY];have:=Lib.countB_le ⟨#[44]⟩ (aH rfl) s.size s (aU _);omega
def sO(s:aJ):(fI s).map bl=dS 44 (bl s):=by
 unfold fI;rw[<-Ew 44 (bl s).length (bl s) (aU _)];exact Lib.splitB_data ⟨#[44]⟩ 0 _ s
def CT{c:UInt8}:∀(n:Nat) (s:aT),s.length<=n->∀a∈dS c s,a.length<=s.length
 |n,s,hn,a,d=>by
  rcases tB c s with h|⟨b,t,rfl,h⟩
  .rw[sY h]at d;simp at d;subst d;omega
  .rw[sV t h]at d
   rcases pc.1 d with rfl|d
   .simp
   .cases n with
    |zero=>simp at hn
    |succ n=>have:=CT n t (by simp at hn;omega) a d;simp;omega
def IY{s x:aJ}(h:x∈fI s):x.size<=s.size:=by
 have:=CT _ (bl s) (aU _) (bl x) (by rw[<-sO];exact Da h);rwa[bN,bN]at this
def Ff(p:PS)(a:Nat)(x y:Int):(p.fail a x).fail a y=p.fail a (if x=0 then y else x):=by
 by_cases c:x=0
 .subst c;rw[m9,aG rfl]
 .rw[aF c]
  by_cases d:p.e=0
  .have b:p.fail a x={ p with at_:=a,e:=x }:=by unfold PS.fail;rw[aG ⟨d,c⟩]
   rw[b];unfold PS.fail;rw[aF (by simp[c])]
  .have b:∀z,p.fail a z=p:=fun z=>by unfold PS.fail;rw[aF (by simp[d])]
   rw[b,b]
def C6(p:PS)(a:Nat)(x:Int):(p.fail a x).start=p.start:=by unfold PS.fail;split<;>rfl
def wD(l:bP):Bool:=l.any fun x=>decide ((gZ (bl x)).2≠0)
def eA(l:bP):Int:=if wD l=true then 3 else 0
def ZU{l:bP}{k:Nat}(h:k<l.length)(a:(gZ (bl l[k])).2=0):eA (l.take (k+1))=eA (l.take k):=by
 unfold eA wD;rw[eF h,wy];simp[a]
def Vr{l:bP}{k:Nat}(h:k<l.length)(a:(gZ (bl l[k])).2≠0):eA (l.take (k+1))=if eA (l.take k)=0 then 3 else eA (l.take k):=by
 unfold eA wD;rw[eF h,wy];have:((([l[k]]:bP)).any fun x=>decide ((gZ (bl x)).2≠0))=true:=by simp[a]
 rw[this,Bool.or_true]
 cases(List.take k l).any fun x=>decide ((gZ (bl x)).2≠0)<;>rfl
def ij(l:bP):List cE:=l.map fun x=>pR (bl x)
def BL(s:aJ):oc (bl s)=ij (fI s):=by
 unfold oc ij;rw[<-sO,BI];rfl
def V7(p:PS)(a:Nat)(s:aJ):p.fail a (lJ (bl s))=((p.fail a (eA (fI s))).fail a (if 8<(fI s).length then 9 else 0)).fail a (if eP (ij (fI s))=true then 0 else 30):=by
 rw[Ff,Ff];congr 1;unfold lJ;rw[BL,<-sO];have e:((fI s).map bl).any (fun x=>decide ((gZ x).2≠0))=wD (fI s):=by unfold wD;rw[List.any_map];rfl
 rw[e,cL];unfold eA
 cases wD (fI s)<;>cases eP (ij (fI s))<;>by_cases b:8<(fI s).length<;>simp[b]
def EJ{s:aT}{p:PS}(h:dH s p)(n:Nat)(ho:(p.next n).2.2=true):(p.next n).2.1.length+1<=s.length:=by
 have a:=(h.next n).1;unfold PS.next at*
 by_cases b:p.e≠0
 .rw[aG b]at ho;cases ho
 .rw[aF b]at a ho|-
  cases hr:p.rest with
  |nil=>rw[hr]at ho;cases ho
  |cons w c=>rw[hr]at a;simp only at a|-;omega
def BC(l:bP):(ij l).length=l.length:=cL _
attribute [local go_sem ↓] abg
attribute [local go_sem] ZE
def Hq{l:bP}{k:Nat}(h:k<l.length):((ij (l.take (k+1))).map bC).flatten=((ij (l.take k)).map bC).flatten++bC (pR (bl l[k])):=by
 unfold ij;rw[eF h,gD,gD,Ai];congr 1;exact je _
def Ey(W:aB)(y:cE)(t:TypeId)(n:Nat)(a:n=W.heap.size):∀j u,(bC y)[j]? =some u->(W.alloc (aC (bC y) t)).cell? (((aD n 0):Addr).add j)=some u:=by
 intro j u b;subst a;rw[fO,fB,Ni];simpa using b
def EV(y:cE):∀u∈bC y,u.oneCell'=true:=fun u a=>gY.1 (uq y) u a
def JP{w a c:aB}{b:Nat}{row:Option Nat}(h:w.grownBy a (some b))(d:a.grownBy c row)(g:∀k,row=some k->w.heap.size<=k):w.grownBy c (some b):=
 ⟨d.os.trans h.os,d.tape.trans h.tape,d.output.trans h.output,eu h.size d.size,fun i hi f=>(d.block i (dQ hi h.size) (fun e=>by have:=g _ e.symm;omega)).trans (h.block i hi f)⟩
def OK(b:Nat)(s:aJ)(q:PS×Bool×List cE)(w:aB)(e:Ending)(w':aB):Prop:=∃a n k,e=.returned (.tuple #[.bool q.2.1,.slice a n k])/\eR w' (.slice a n k) q.2.2/\(∀x,a=some x->w.heap.size<=x.block)/\ec w' b s q.1/\w.grownBy w' (some b)
def WN(b:Nat)(s:aJ)(p:PS)(w:aB)(h:ec w b s p)(hok:dH (bl s) p)(hs:s.size<=1000000)(hE:ff w)(hb:4<b):
  Calls prog 258 #[bZ b] w (OK b s (p.modeP s.size) w):=by
 have hz:=h.facts.2.2.2.2.2.2;have HN:=aA (uJ b s p w h hok hs hE hb);have HE:=aA hE;have HOK:=aA (hok.next s.size);have Z:Hid (p.modeP s.size=if(p.next s.size).2.2=false\/(p.next s.size).2.1=nt then((p.next s.size).1,false,[])else if(p.next s.size).2.1≠kd then((p.next s.size).1.fail (p.next s.size).1.start 3,false,[])else(p.next s.size).1.autsP s.size):=rfl;have HX:Hid ((p.next s.size).2.2=false->(p.next s.size).2.1=[]):=Ef;clear h hok hE;generalize p.next s.size=q at*
 obtain⟨p1,x,ok⟩:=q;simp only at HN Z HX HOK
 cases ok with
 |false=>
  have f:=aA (show p.modeP s.size=(p1,false,[]) by rw[Z.out,aG (.inl rfl)])
  have hx:=HX rfl;subst hx;clear Z HX;go_in;go_wp2_with fail;refine HN.mono ?_;rintro e w1 ⟨rfl,h1,j⟩;have H1:=aA h1;have r:=aA j;clear h1 j;go_wp2_with fail;go_ret2;exact⟨none,0,0,by rw[f.out];rfl,by rw[f.out];exact jU _,(fun x hx=>by cases hx),by rw[f.out];exact H1,r⟩
 |true=>
  by_cases F:x=nt
  .have f:=aA (show p.modeP s.size=(p1,false,[]) by rw[Z.out,aG (.inr F)])
   subst F;have q1:((bs nt).toList==[111,112,101,110])=true:=by rw[hI];decide+kernel
   clear Z HX;generalize bs nt=y at*
   go_in;go_wp2_with fail;refine HN.mono ?_;rintro e w1 ⟨rfl,h1,j⟩;have H1:=aA h1;have r:=aA j;clear h1 j;go_wp2_with fail;go_ret2;exact⟨none,0,0,by rw[f.out];rfl,by rw[f.out];exact jU _,(fun x hx=>by cases hx),by rw[f.out];exact H1,r⟩
  .have q1:((bs x).toList==[111,112,101,110])=false:=by
    rw[dI,hI,oQ];exact F
   by_cases K:x=kd
   .have ao:=aA (show p.modeP s.size=p1.autsP s.size by rw[Z.out,aF (by simp[F]),aF (by simp[K])])
    subst K;have q2:((bs kd).toList != [109,111,100,101,114,97,116,101,100])=false:=by rw[hI];decide+kernel
    have q3:((bs kd).toList==[109,111,100,101,114,97,116,101,100])=true:=by rw[hI];decide+kernel
    clear Z HX F;generalize bs kd=y at*
    have f:Hid (p1.autsP s.size=if(p1.next s.size).2.2=true then((p1.next s.size).1.fail (p1.next s.size).1.start (lJ (p1.next s.size).2.1),true,oc (p1.next s.size).2.1)else((p1.next s.size).1,true,[])):=rfl;rw[ao.out];clear ao;have O:=aA ((show(p1.next s.size).2.2=true->_ from EJ HOK s.size));go_in;go_wp2_with fail;refine HN.mono ?_;rintro e w1 ⟨rfl,h1,j⟩;have a2:=aA (uJ b s p1 w1 h1 HOK hs (HE.grown j hb) hb);have a8:Hid ((p1.next s.size).2.2=false->(p1.next s.size).2.1=[]):=Ef;have r:=aA j;clear h1 j HN HOK;generalize p1.next s.size=q at*
    obtain⟨U,M,ok2⟩:=q;simp only at a2 f a8 O
    cases ok2 with
    |false=>
     have hx:=a8 rfl;subst hx;go_wp2_with fail;refine a2.mono ?_;rintro e S ⟨rfl,h2,v⟩;have H2:=aA h2;have E:=aA (dG r v);clear h2 v;go_wp2_with fail;go_ret2;exact⟨none,0,0,by rw[f.out];rfl,by rw[f.out];exact jU _,(fun x hx=>by cases hx),by rw[f.out];exact H2,E⟩
    |true=>
     rw[aG rfl]at f;go_wp2_with fail;refine a2.mono ?_;rintro e S ⟨rfl,h2,v⟩;obtain⟨m,hm⟩:=HE.out.grown (dG r.out v) hb;have a0:(bs M).size<=999999:=by have:=O eV;have e1:=bN (bs M);rw[oQ]at e1;rw[bN]at this;omega
     have HC:=aA (Tryz.strings_Split (bs M) ⟨#[44]⟩ m S (by omega) hm (aH rfl));rw[<-KY]at HC;have J:=aA (show (fI (bs M)).length<=1000000 by have:=Es (bs M);omega)
     have ak:Hid (∀z∈fI (bs M),z.size<=1000000):=fun z hz=>eu (IY hz) (by omega);have a6:=aA (V7 U U.start (bs M));have a7:=aA (BL (bs M));rw[oQ]at a6 a7;rw[a7.out,a6.out]at f;have E:=aA (dG r v);have H2:=aA h2;clear h2 v hm a0 a6 a7 a8 O r a2 HE;have aj:Hid (Calls prog 263 #[.string (bs M),.string ⟨#[44]⟩] S fun e w'=>e=.returned (aR (S.heap.size) 0 (fI (bs M)).length (fI (bs M)).length)/\w'=S.alloc (aC ((fI (bs M)).map Value.string) 9)):=HC;clear HC;generalize fI (bs M)=l at*
     go_wp2_with fail;refine aj.mono ?_;rintro e w3 ⟨rfl,rfl⟩;have g3:=(Gr.refl S).alloc (aC (l.map Value.string) 9);have a4:=aA (cM S (aC (l.map Value.string) 9));have am:=aA (H2.gr g3);have al:=aA (dG E (dW (row:=some b) g3));have HK:w.heap.size<=S.heap.size:=E.size;generalize S.alloc (aC (l.map Value.string) 9)=w3 at*
     clear H2 E aj g3;obtain⟨D,aw⟩:=ex S.heap.size;rw[aw]at a4 HK|-
     clear aw;have HI:=aA (Az aab);go_wp2_with fail
     go_loopw [6,41] (fun cv i wr=>∃k:Nat,k<=l.length/\i=.int .i64 k/\Hid (w.grownBy wr (some b))/\Hid (ec wr b s (U.fail U.start (eA (l.take k))))/\Hid (HB wr D (l.map Value.string) 9)/\Hid (wr.ownsRow (D+1) 42 16 cv k ((ij (l.take k)).map bC).flatten)) (fun _ i _=>l.length-(intOf i).toNat)
     .exact⟨0,bW _,rfl,al,by show ec _ _ _ _;rw[show U.fail U.start (eA (l.take 0))=U from m9 _ _];exact am,a4,⟨rfl,.inl ⟨rfl,rfl⟩⟩⟩
     .
      obtain⟨k,hk,rfl,P,I,hB,a⟩:=hrel;by_cases R:k<l.length
      .have az:(k:Int)<(l.length:Int):=by omega
       have b1:=nn k
       have av:=J.out;have au:D<wr.heap.size:=(bY.1 hB).1;have hc:wr.cell? (aD D k)=some (.string l[k]):=oW wr D k _ _ _ hB |>.trans (by simp[R]);have HS:=aA (Hq R);have X:=aA (ZU R);have Y:=aA (Vr R);have an:Hid (∀W,CG 281 #[.string l[k]] W (.tuple #[aE (bC (pR (bl l[k]))),.int .i64 (gZ (bl l[k])).1,.int .i64 (gZ (bl l[k])).2])):=fun W=>Wj l[k] W (ak _ (kA R));generalize pR (bl l[k])=y at*
       generalize gZ (bl l[k])=ae at*
       obtain⟨a1,er⟩:=ae;simp only at X Y an;generalize l[k]=z at*
       go_wp2_with fail;refine(an _).mono ?_;rintro e N ⟨rfl,d⟩;have g6:=d.trans ((Gr.refl N).alloc (aC (bC y) 42));by_cases Q:er=0
       .subst Q
        clear Y;have a5:=aA (X rfl);clear X;have g7:=g6.trans ((Gr.refl (N.alloc (aC (bC y) 42))).alloc (aC (bC y) 42));have O7:=aA (mM a g7.grownBy (by cases u6.ownBlock<;>simp));have G7:=aA (dG P (dW (row:=some b) g7));have P7:=aA (I.gr g7);have B7:=aA ((g7.block au).trans hB);have N7:=aA (Ey (N.alloc (aC (bC y) 42)) y 42 (N.heap.size+1) (by simp));have Z7:D+1<=((N.alloc (aC (bC y) 42)).alloc (aC (bC y) 42)).heap.size:=by have:=g7.size;omega
        have ar:∀C,u6.ownBlock=some C->D+1<=C:=fun C B=>(a.lt C B).1;have g:=aA ar;clear ar a d g6 g7 P I hB;obtain⟨i0,hi,af,ag,ah⟩:=HI.out;go_wp2_with (at_builtin;refine Fx _ rfl _ _ 85 rfl (D+1) 42 i0 _ 16 16 underlying85 hi af ag ah rfl (aH rfl) u6 k ((ij (l.take k)).map bC).flatten rfl O7 (aD (N.heap.size+1) 0) 1 1 (bC y) rfl (by rw[a_]) N7 (EV y) (by have:=J.out;unfold maxLen;omega) (by have:=J.out;omega) Z7 ?_;intro v' w8 G c ab);go_roundw
        .
         have ad:=(bY.1 P7).1;have a9:=(bY.1 B7).1;refine⟨k+1,by omega,by go_num,JP G7 c (fun C B=>by have:=g C B;omega),?_,?_,?_⟩
         .rw[a5.out];exact(c.block _ ad (fun e=>by have:=g _ e.symm;omega)).trans P7
         .exact(c.block _ a9 (fun e=>by have:=g _ e.symm;omega)).trans B7
         .show World.ownsRow _ _ _ _ _ _ _
          rw[HS.out];exact G
        .simp[intOf];omega
       .have b2:(er != 0)=true:=by simp[Q]
        have b3:(er==0)=false:=by simp[Q]
        have a5:=aA (Y Q);clear X Y Q;have P6:=I.gr g6;obtain⟨d0,T,d2,d3,d4,_,L⟩:=P6.facts;rw[C6]at T;have t:=aA (mH b s _ U.start 3 _ P6);rw[Ff]at t;have ai:=aA (cM N (aC (bC y) 42));have O6:=aA (mM a g6.grownBy (by cases u6.ownBlock<;>simp));have G6:=aA (dG P (dW (row:=some b) g6));have B6:=aA ((g6.block au).trans hB);have Z5:D+1<=N.heap.size:=by have:=d.size;omega
        have Zb:b<N.heap.size:=by have:=d.size;have:=(bY.1 I).1;omega
        have g:Hid (∀C,u6.ownBlock=some C->D+1<=C):=fun C B=>(a.lt C B).1;clear a d g6 P I hB P6;go_wp2_with fail;refine t.mono ?_;rintro e w7 ⟨rfl,h7,o⟩;have b7:vp w7 N.heap.size 42 y:=eH o ai (by simp;omega);obtain⟨r7,q7,z7⟩:=b7.rows;have g8:=(Gr.refl w7).alloc (aC (bC y) 42)
        have O7:=aA ((mM O6 o (by cases hq:u6.ownBlock with
         |none=>exact .inl rfl
         |some q=>exact .inr (fun e=>by cases e;have:=g _ hq;omega))).kept g8.grownBy (by cases u6.ownBlock<;>simp))
        have G7:=aA (dG (dG G6 o) (dW (row:=some b) g8));have P7:=aA (h7.gr g8);have B7:=aA ((g8.block (dQ (by simp;omega) o.size)).trans ((o.block D (by simp;omega) (fun e=>by cases e;omega)).trans B6));have N7:=aA (Ey w7 y 42 w7.heap.size rfl);have Z7:D+1<=(w7.alloc (aC (bC y) 42)).heap.size:=by have:=o.size;simp at this|-;omega
        clear O6 G6 B6 h7 o g8 b7 d0 T d2 d3 d4 ai t;obtain⟨i0,hi,af,ag,ah⟩:=HI.out;go_wp2_with (at_builtin;refine Fx _ rfl _ _ 85 rfl (D+1) 42 i0 _ 16 16 underlying85 hi af ag ah rfl (aH rfl) u6 k ((ij (l.take k)).map bC).flatten rfl O7 (aD (w7.heap.size) 0) 1 1 (bC y) rfl (by rw[a_]) N7 (EV y) (by have:=J.out;unfold maxLen;omega) (by have:=J.out;omega) Z7 ?_;intro v' w8 G c ab);go_roundw
        .
         have ad:=(bY.1 P7).1;have a9:=(bY.1 B7).1;refine⟨k+1,by omega,by go_num,JP G7 c (fun C B=>by have:=g C B;omega),?_,?_,?_⟩
         .rw[a5.out];exact(c.block _ ad (fun e=>by have:=g _ e.symm;omega)).trans P7
         .exact(c.block _ a9 (fun e=>by have:=g _ e.symm;omega)).trans B7
         .show World.ownsRow _ _ _ _ _ _ _
          rw[HS.out];exact G
        .simp[intOf];omega
      .have az:¬(k:Int)<(l.length:Int):=by omega
       obtain rfl:k=l.length:=by omega
       rw[jS]at a I;have ax:=aA (BC l);have g:Hid (∀C,u6.ownBlock=some C->D+1<=C):=fun C B=>(a.lt C B).1;have V:Hid (∀W:aB,W.ownsRow (D+1) 42 16 u6 l.length ((ij l).map bC).flatten->eR W u6 (ij l)):=fun W hW=>rf (base:=D+1) (e:=42) (J2 _) (by rw[cL,BC];exact hW)
       have u:Hid (∀W W':aB,W.ownsRow (D+1) 42 16 u6 l.length ((ij l).map bC).flatten->W.grownBy W' (some b)->W'.ownsRow (D+1) 42 16 u6 l.length ((ij l).map bC).flatten):=fun W W' hW hg=>mM hW hg (by cases hq:u6.ownBlock with
        |none=>exact .inl rfl
        |some q=>exact .inr (fun e=>by cases e;have:=g _ hq;omega))
       obtain⟨a',c',rfl,_⟩:=ql a.out;have av:=J.out;generalize((ij l).map bC).flatten=xs at*
       generalize ij l=la at*
       have H:Hid (∀W,eR W (.slice a' l.length c') la->CG 282 #[.slice a' l.length c'] W (.bool (eP la))):=fun W hW=>XV la _ W hW (by rw[ax.out];exact av);generalize eA l=ea at*
       generalize l.length=n at*
       clear ak HI a4 am al hB;obtain⟨d0,T,d2,d3,d4,_,L⟩:=I.out.facts;rw[C6]at T;by_cases h8:8<n
       focus
        have ay:(8:Int)<(n:Int):=by omega
        rw[aG h8]at f;have t:=aA (mH b s _ U.start 9 _ I);have O0:=a;have G0:=P;clear a P I;go_wp2_with fail;refine t.mono ?_;rintro e w4 ⟨rfl,ap,aa⟩;have I:=aA ap;have a:=aA (u _ _ O0 aa);have P:=aA (dG G0 aa);clear ap aa O0 G0 d0 T d2 d3 d4 L t
       rotate_left
       focus
        have ay:¬(8:Int)<(n:Int):=by omega
        rw[aF h8,m9]at f
       all_goals
        cases hin:eP la with
        |true=>
         rw[aG hin]at f;rw[hin]at H;go_wp2_with fail;refine(H _ (V _ a)).mono ?_;rintro e N ⟨rfl,d⟩;have G5:=aA (dG P (dW (row:=some b) d));have P5:=aA (I.gr d);have A5:=aA (V _ (u _ _ a (dW d)));clear P I a d;go_wp2_with fail;go_ret2;exact⟨a',n,c',by rw[f.out];rfl,by rw[f.out];exact A5,(fun x hx=>by have:=g x.block (by rw[hx];rfl);omega),by rw[f.out];show ec _ _ _ (PS.fail _ _ _);rw[m9];exact P5,G5⟩
        |false=>
         rw[aF (by rw[hin];decide)]at f;rw[hin]at H;go_wp2_with fail;refine(H _ (V _ a)).mono ?_;rintro e N ⟨rfl,d⟩;have G5:=aA (dG P (dW (row:=some b) d));have ac:=I.gr d;have O5:=aA (u _ _ a (dW d));have a3:=aA (mH b s _ U.start 30 _ ac);obtain⟨d0,T,d2,d3,d4,_,L⟩:=ac.facts;simp only[C6]at T;clear P I a d ac;go_wp2_with fail;refine a3.mono ?_;rintro e w7 ⟨rfl,aq,o⟩;have P7:=aA aq;have G7:=aA (dG G5 o);have A7:=aA (V _ (u _ _ O5 o));clear aq o O5 G5 a3 d0 T d2 d3 d4 L;go_wp2_with fail;go_ret2;exact⟨a',n,c',by rw[f.out];rfl,by rw[f.out];exact A7,(fun x hx=>by have:=g x.block (by rw[hx];rfl);omega),by rw[f.out];exact P7,G7⟩
   .have f:=aA (show p.modeP s.size=(p1.fail p1.start 3,false,[]) by rw[Z.out,aF (by simp[F]),aG K])
    have q2:((bs x).toList != [109,111,100,101,114,97,116,101,100])=true:=by
     rw[hI,oQ];exact qp.2 K
    have q3:((bs x).toList==[109,111,100,101,114,97,116,101,100])=false:=by
     rw[hI,oQ];exact dI.2 K
    clear Z HX F K;generalize bs x=y at*
    go_in;go_wp2_with fail;refine HN.mono ?_;rintro e w1 ⟨rfl,h1,j⟩;have t:=aA (mH b s _ p1.start 3 _ h1);have r:=aA j;obtain⟨d0,T,d2,d3,d4,_,L⟩:=h1.facts;clear h1 j;go_wp2_with fail;refine t.mono ?_;rintro e S ⟨rfl,h2,v⟩;have H2:=aA h2;have E:=aA (dG r v);clear h2 v t d0 T d2 d3 d4 L;go_wp2_with fail;go_ret2;exact⟨none,0,0,by rw[f.out];rfl,by rw[f.out];exact jU _,(fun x hx=>by cases hx),by rw[f.out];exact H2,E⟩
end
section
structure mT(w W:aB)(b:Nat)(s:aJ)(p:PS)(c:Cm)(v:Value):Prop where
 ps:ec W b s p
 gr:w.grownBy W (some b)
 b0:HB W (w.heap.size) (aL (aV 0) bB) 87
 b1:HB W (w.heap.size+1) (aL c v) 87
section
variable {w W W' : World} {b : Nat} {s : ByteArray} {p p' : PS} {c c' : Cm} {v v' : Value}
theorem mT.call(h:mT w W b s p c v)(e:b<w.heap.size)(d:ec W' b s p')(a:W.grownBy W' (some b)):mT w W' b s p' c v:=
 ⟨d,dG h.gr a,eH a h.b0 (by simp;omega),eH a h.b1 (by simp;omega)⟩
theorem mT.set(h:mT w W b s p c v)(d:b<w.heap.size)(o:Nat)(x:Value)(a:HB (W.setCell (aD (w.heap.size+1) o) x) (w.heap.size+1) (aL c' v') 87):mT w (W.setCell (aD (w.heap.size+1) o) x) b s p c' v':=
 ⟨h.ps.other (cG W (aD (w.heap.size+1) o) b x (by show b≠w.heap.size+1;omega)),vo h.gr (by omega) x,(cG W (aD (w.heap.size+1) o) w.heap.size x (by show w.heap.size≠w.heap.size+1;omega)).trans h.b0,a⟩
theorem mT.start(h:ec w b s p)(k:Int):mT w ((w.alloc (aC (aL (aV 0) bB) 87)).alloc (aC (aL (aV k) bB) 87)) b s p (aV k) bB:=
 have a:=((Gr.refl w).alloc (aC (aL (aV 0) bB) 87)).alloc (aC (aL (aV k) bB) 87)
 ⟨h.gr a,dW a,pg w _ _,lh w _ _⟩
theorem Uh{W d:aB}{b n k:Nat}{a:dB}{l:List cE}(h:eR W (.slice a n k) l)(m:W.grownBy d (some b))(u:∀x,a=some x->x.block≠b):eR d (.slice a n k) l:=by
 obtain⟨B,r,A,v,z⟩:=h;injection A with e1 e2 e3;subst e1;subst e3;refine⟨a,k,by rw[e2],v,fun j f=>?_⟩;obtain⟨q,o,g,p,s,t⟩:=z j f;have y:=m.block q p (fun e=>u _ g (by simpa using e));have c:∀i,i<16->d.cell? (((aD q (o+j*16)):Addr).add i)=W.cell? (((aD q (o+j*16)):Addr).add i):=fun i _=>vg (w:=W) (by rw[sZ];exact y);exact⟨q,o,g,dQ p m.size,(xM c).trans s,(yD c).trans t⟩
theorem mT.lt(h:mT w W b s p c v):w.heap.size+1<W.heap.size:=(bY.1 h.b1).1
end
def wv(n:Nat)(s:aT)(p:PS):PS×Cm:=
 let b:=p.groupP n
 let c:=b.1.numP n 0 1000000
 let a:=c.1.modeP n
 let d:=a.1.restP s
 (d.1,{ aV 3 with group:=bs b.2,version:=c.2,moderated:=a.2.1,mods:=a.2.2,text:=bs d.2 })
theorem abz(b:Nat)(s:aJ)(p:PS)(w:aB)(h:ec w b s p)(M:dH (bl s) p)(hs:s.size<=1000000)(hE:ff w)(U:4 <b):
  Calls prog 256 #[bZ b] w (tZ b s (wv s.size (bl s) p).1 w (wv s.size (bl s) p).2):=by
 have G:=h.facts.2.2.2.2.2.2;have S0:=aA (mT.start h 3);have HG:=aA (Fv b s p _ S0.ps M hs (hE.grown S0.gr U) U);have HE:=aA hE;have D:=aA (M.group s.size);have W:Hid (wv s.size (bl s) p=(((((p.groupP s.size).1.numP s.size 0 1000000).1.modeP s.size).1.restP (bl s)).1,{ aV 3 with group:=bs (p.groupP s.size).2,version:=((p.groupP s.size).1.numP s.size 0 1000000).2,moderated:=(((p.groupP s.size).1.numP s.size 0 1000000).1.modeP s.size).2.1,mods:=(((p.groupP s.size).1.numP s.size 0 1000000).1.modeP s.size).2.2,text:=bs ((((p.groupP s.size).1.numP s.size 0 1000000).1.modeP s.size).1.restP (bl s)).2 })):=rfl;generalize p.groupP s.size=q at*
 obtain⟨p1,g⟩:=q;simp only at HG W D;go_in;go_wp2_with fail;refine HG.mono ?_;rintro e w1 ⟨rfl,h1,a2⟩;have X:=aA (S0.call G h1 a2);obtain⟨K,c,d,f,j,z,l,m,R,P,t,o,u,r,Q,O,V⟩:=iX X.out.b1;have T:=ee X.b1 33;go_wp2_with fail;have S2:=aA (X.set G 33 (.string (bs g)) (CP X.b1 (bs g)));generalize w1.setCell (aD (w.heap.size+1) 33) (.string (bs g))=W2 at*
 have HN:=aA (Fi b s p1 0 1000000 W2 S2.ps D hs (HE.grown S2.gr U) U);have y:=aA (D.num s.size 0 1000000);generalize p1.numP s.size 0 1000000=q at*
 obtain⟨p2,I⟩:=q;simp only at HN W y;refine HN.mono ?_;rintro e w3 ⟨rfl,h3,a3⟩;have Y:=aA (S2.call G h3 a3);obtain⟨K,c,d,f,j,z,l,m,R,P,t,o,u,r,Q,O,V⟩:=iX Y.out.b1;have T:=ee Y.b1 34;go_wp2_with fail;have Z:=aA (Y.set G 34 (.int .i64 I) (JE Y.b1 I));generalize w3.setCell (aD (w.heap.size+1) 34) (.int .i64 I)=W4 at*
 have HM:=aA (WN b s p2 W4 Z.ps y hs (HE.grown Z.gr U) U);have B:=aA (y.mode s.size);generalize p2.modeP s.size=q at*
 obtain⟨p3,md,N⟩:=q;simp only at HM W B;refine HM.mono ?_;rintro e w5 ⟨a,n,k,rfl,a1,H,h5,E⟩;have S:=aA (Z.call G h5 E);have C:Hid (∀x,a=some x->w.heap.size+1<x.block):=fun x F=>by have:=H x F;have:=Z.lt;omega
 obtain⟨K,c,d,f,j,z,l,m,R,P,t,o,u,r,Q,O,V⟩:=iX S.out.b1;have T:=ee S.b1 35;have f2:=ee S.b1 36;have A5:=aA a1;go_wp2_with fail;have S6:=S.set G 35 (.bool md) (QL S.b1 md);have S7:=aA (S6.set G 36 (.slice a n k) (IW S6.b1 (.slice a n k)));have A7:Hid (eR ((w5.setCell (aD (w.heap.size+1) 35) (.bool md)).setCell (aD (w.heap.size+1) 36) (.slice a n k)) (.slice a n k) N):=by
  refine bX.keep A5 (fun x F=>?_) (by simp);have:=C x F;exact(cG _ (aD (w.heap.size+1) 36) x.block _ (by show x.block≠w.heap.size+1;omega)).trans (cG w5 (aD (w.heap.size+1) 35) x.block _ (by show x.block≠w.heap.size+1;omega))
 generalize(w5.setCell (aD (w.heap.size+1) 35) (.bool md)).setCell (aD (w.heap.size+1) 36) (.slice a n k)=W7 at*
 have HT:=aA (adw b s p3 W7 S7.ps B hs);generalize p3.restP (bl s)=q at*
 obtain⟨p4,J⟩:=q;simp only at HT W;refine HT.mono ?_;rintro e w8 ⟨rfl,h8,L⟩;have S8:=aA (S7.call G h8 L);have A8:=aA (Uh A7 L (fun x F=>by have:=C x F;omega));obtain⟨K,c,d,f,j,z,l,m,R,P,t,o,u,r,Q,O,V⟩:=iX S8.out.b1;have T:=ee S8.b1 37;have S9:=S8.set G 37 (.string (bs J)) (LE S8.b1 (bs J));obtain⟨-,-,-,-,-,-,-,-,-,-,-,-,-,-,a5,a4,a6⟩:=iX S9.b1;have f0:=bE S9.b0 0 56;have u0:=aP S9.b0 0 56 (by rw[cA];decide);have H9:=aA S9;go_wp2_with fail;have hw:=bO (cs:=aL { aV 3 with group:=bs g,version:=I,moderated:=md,mods:=N,text:=bs J } (.slice a n k)) H9.b0 (by rw[cA,cA]);have h5:=H9.ps.other (cD (b:=w.heap.size) (i:=b) (by omega) (aL { aV 3 with group:=bs g,version:=I,moderated:=md,mods:=N,text:=bs J } (.slice a n k)) 0 _);have E:=ko (b:=w.heap.size) (aU _) (aL { aV 3 with group:=bs g,version:=I,moderated:=md,mods:=N,text:=bs J } (.slice a n k)) 0 _ H9.gr;have A9:eR ((w8.setCell (aD (w.heap.size+1) 37) (.string (bs J))).setCells w.heap.size 0 (aL { aV 3 with group:=bs g,version:=I,moderated:=md,mods:=N,text:=bs J } (.slice a n k))) (.slice a n k) N:=by
  refine bX.keep A8 (fun x F=>?_) (by rw[kB];simp);have:=C x F;exact(cD (by omega) _ 0 _).trans (cG _ (aD (w.heap.size+1) 37) x.block _ (by show x.block≠w.heap.size+1;omega))
 refine bI (v:=aE (aL { aV 3 with group:=bs g,version:=I,moderated:=md,mods:=N,text:=bs J } (.slice a n k))) (dY rfl _ _ w.heap.size _ _ _ _ rfl hw underlying87 rfl (by rw[bQ,cA];kernel_rfl)) rfl ?_;rw[W.out];exact⟨a,n,k,rfl,A9,(fun x F=>by have:=C x F;omega),h5,E⟩
end
section
def w_:Vector UInt8 64:=lX 64 yX
theorem Lp:∀i:Fin 64,w_[i.val]=cP i.val:=by decide+kernel
theorem iD.row{w:aB}(h:iD w):hasRow w (aD 3 0) 64=true/\rowAt w (aD 3 0) 64=bC w_:=by
 have e:∀i,i<64->w.cell? (((aD 3 0):Addr).add i)=some (cU (cP i)):=fun i hi=>by rw[fO,fB];exact h i hi
 refine⟨kr.2 fun i hi=>by rw[e i hi];rfl,?_⟩;apply rD;intro i;by_cases hi:i<64
 .rw[tD w_ i hi]
  unfold rowAt;rw[fo,qf hi,jm,e i hi,Lp ⟨i,hi⟩];rfl
 .rw[kZ (by unfold rowAt;simp;omega),kZ (by rw[a_];omega)]
def mC(n:Nat):List MapEntry:=(List.range n).map fun i=>{ key:=.int .u8 ((cP i).toNat:Int),val:=.int .i64 (i:Int),born:=i }
def mc(n:Nat):Obj:=.map (mC n).toArray n
theorem OE(n:Nat):mC (n+1)=mC n++[{ key:=.int .u8 ((cP n).toNat:Int),val:=.int .i64 (n:Int),born:=n }]:=by unfold mC;rw[wI,gD];rfl
def M_(o:Option (Option (Nat×Value))):Bool:=match o with|some none=>true|_=>false
theorem TM:∀k:Fin 64,M_ (Instr.findNow (.int .u8) (.int .u8 ((cP k.val).toNat:Int)) (mC k.val) 0)=true:=by decide+kernel
theorem Yi(k:Nat)(h:k<64):Instr.findNow (.int .u8) (.int .u8 ((cP k).toNat:Int)) (mC k) 0=some none:=by
 have h:=TM ⟨k,h⟩;simp only at h;unfold M_ at h;split at h
 .assumption
 .cases h
def Hk(c:UInt8)(o:Option (Option (Nat×Value))):Bool:=match o with|some none=>!fp c|some (some (_,.int .i64 x))=>fp c&&x==gN c|_=>false
theorem Xm:∀c:UInt8,Hk c (Instr.findNow (.int .u8) (.int .u8 (c.toNat:Int)) (mC 64) 0)=true:=qA (by decide+kernel)
theorem QO(c:UInt8):(fp c=false/\Instr.findNow (.int .u8) (.int .u8 (c.toNat:Int)) (mC 64) 0=some none)\/(fp c=true/\∃j,Instr.findNow (.int .u8) (.int .u8 (c.toNat:Int)) (mC 64) 0=some (some (j,.int .i64 (gN c)))):=by
 have h:=Xm c;generalize Instr.findNow (.int .u8) (.int .u8 (c.toNat:Int)) (mC 64) 0=o at*
 unfold Hk at h;split at h
 .exact .inl ⟨by simpa using h,rfl⟩
 .rename_i j x
  rw[fH,lu]at h;exact .inr ⟨h.1,j,by rw[h.2]⟩
 .cases h
section
variable {P : Program} {mty kt et : TypeId} (w : World)
theorem TE(g:P.underlying mty=some (.map kt et))(c:P.underlying kt=some (.int .u8))(k:Nat)(h:k<64):
  (Instr.mapUpdate mty (.map (some w.heap.size)) (.int .u8 ((cP k).toNat:Int)) (.int .i64 (k:Int))).run P (w.alloc (mc k))=.ok () (w.alloc (mc (k+1))):=by
 have f:=Yi k h;have b:(w.alloc (mc k)).heap[w.heap.size]? =some (.map (mC k).toArray k):=cM w _
 have d:(Instr.checkKey false 10000 kt (.int .u8 ((cP k).toNat:Int))).run P (w.alloc (mc k))=.ok () (w.alloc (mc k)):=yp (k:=.int .u8 ((cP k).toNat:Int)) c (by simp[MapKept.IsKey]) false 9999;have j:({ w.alloc (mc k)with heap:=(w.alloc (mc k)).heap.setIfInBounds w.heap.size (.map ((mC k).toArray.push { key:=.int .u8 ((cP k).toNat:Int),val:=.int .i64 (k:Int),born:=k }) (k+1)) }:aB)=w.alloc (mc (k+1)):=by
  have e:(mC (k+1)).toArray=(mC k).toArray.push { key:=.int .u8 ((cP k).toNat:Int),val:=.int .i64 (k:Int),born:=k }:=by rw[OE];simp
  unfold mc World.alloc;rw[e];simp only[zk,xd];apply xH;intro i;rw[Io,Ae,Ae];by_cases hi:w.heap.size=i
  .subst hi;simp
  .rw[aF hi,aF (fun e=>hi e.symm),aF (fun e=>hi e.symm)]
 simp only[Instr.mapUpdate,nc,lQ g,nZ,vb b,d];rw[vJ c (a:=none) (by simpa using f)];simp only[nZ];rw[MapKept.run_setObj_map _ b,j]
theorem Qt(i:P.underlying mty=some (.map kt et))(g:P.underlying kt=some (.int .u8)){W:aB}{r:Nat}(d:W.heap[r]? =some (mc 64)) (c:UInt8) (z:Value) (l:(zeroValue et).run P W=.ok z W):
  (fp c=false/\(Instr.lookup mty (.map (some r)) (.int .u8 (c.toNat:Int)) true).run P W=.ok (.tuple #[z,.bool false]) W)\/(fp c=true/\(Instr.lookup mty (.map (some r)) (.int .u8 (c.toNat:Int)) true).run P W=.ok (.tuple #[.int .i64 (gN c),.bool true]) W):=by
 have d:W.heap[r]? =some (.map (mC 64).toArray 64):=d
 have h:∀b,(Instr.checkKey b 10000 kt (.int .u8 (c.toNat:Int))).run P W=.ok () W:=fun b=>yp (k:=.int .u8 (c.toNat:Int)) g (by simp[MapKept.IsKey]) b 9999;rcases QO c with⟨e,f⟩|⟨e,j,f⟩
 .refine .inl ⟨e,?_⟩
  simp only[Instr.lookup,nc,lQ i,nZ,vb d,sA,h];rw[vJ g (a:=none) (by simpa using f)];simp[l]
 .refine .inr ⟨e,?_⟩
  simp only[Instr.lookup,nc,lQ i,nZ,vb d,sA,h];rw[vJ g (a:=some (j,.int .i64 (gN c))) (by simpa using f)];simp
end
theorem OG(w:aB)(d:iD w):Calls prog 324 #[] w fun e w'=>∃r,e=.returned (.map (some r))/\w.heap.size<=r/\w'.heap[r]? =some (mc 64)/\Gr w w':=by
 obtain⟨c,b⟩:=d.row;have l:=d.lt;have o:(Instr.makeMap 395 (some (.int .i64 64))).run prog w=.ok (.map (some w.heap.size)) (w.alloc (mc 0)):=by
  simp[Instr.makeMap,lQ underlying395,asInt];rfl
 have h:Gr w (w.alloc (mc 0)):=(Gr.refl w).alloc _;rw[<-h.hasRow l]at c;rw[<-h.rowAt l]at b;go_in;go_wp2_with fail
 go_loopw [6] (fun i wr=>∃k:Nat,k<=64/\i=.int .i64 k/\wr=w.alloc (mc k)) (fun i _=>64-(intOf i).toNat)
 .exact⟨0,bW _,rfl,rfl⟩
 .
  obtain⟨k,n,rfl,rfl⟩:=hrel;by_cases a:k<64
  .have g:(k:Int)<64:=by omega
   have f:=zO 250 underlying250 w_ k a;have j:w_[k]=cP k:=Lp ⟨k,a⟩;rw[j]at f;have p:=TE (P:=prog) w underlying395 underlying5 k a;generalize(cP k).toNat=x at*
   go_wp2_with fail;go_roundw
   .exact⟨k+1,by omega,by go_num,rfl⟩
   .simp[intOf];omega
  .have g:¬(k:Int)<64:=by omega
   have m:=aA (show k=64 by omega)
   go_wp2_with fail;go_ret;exact⟨w.heap.size,rfl,aU _,by rw[m.out];exact cM w _,(Gr.refl w).alloc _⟩
end
def E2(s:aJ)(i:Int)(k:Nat)(hi:i=(k:Int))(b:k<s.size)(w:aB):(Instr.index 9 (.string s) (.int .i64 i)).run prog w=.ok (.int .u8 (((bl s).getD k 0).toNat:Int)) w:=by
 subst hi;rw[AB w 9 _ .i64 _ underlying9,dif_pos (by constructor<;>(first|omega|(show(k:Int)<(s.size:Int);omega)))];have a:(bl s).getD k 0=s[k]:=by
  rw[eD,cO (by rw[bN];exact b)];rfl
 rw[a];simp only[m_]
def Lr(w:aB):Calls prog 321 #[.int .i64 131072] w fun e w'=>e=.returned (.int .i64 174764)/\w=w':=by
 go_in;go_wp2;all_goals
  go_ret;exact⟨rfl,rfl⟩
def aaC(s:aJ)(w:aB)(p:s.size<=1000000):Calls prog 322 #[.string s] w fun e w'=>e=.returned (.int .i64 (d' (bl s):Nat))/\w=w':=by
 have c:=bN s;by_cases b:s.size=0\/s.size%4≠0
 .have d:Hid (d' (bl s)=s.size):=by
   show _=_;unfold d';rw[aG (by rw[c];rcases b with h|h;exact .inl h;exact .inr (.inl h)),c]
  clear c;by_cases a:s.size=0
  .have k:((s.size:Int)==0)=true:=lu.2 (by omega)
   have j:=aA (show (s.size:Int)=0 by omega)
   clear b a;go_in;go_wp2_with fail;go_ret;exact⟨by rw[d.out];rfl,rfl⟩
  .have k:((s.size:Int)==0)=false:=dI.2 (by omega)
   have n:((s.size:Int)%4 != 0)=true:=qp.2 (by omega);clear b a;go_in;go_wp2_with fail;go_ret;exact⟨by rw[d.out];rfl,rfl⟩
 .have k:((s.size:Int)==0)=false:=dI.2 (by omega)
  have n:((s.size:Int)%4 != 0)=false:=DS.2 (by omega);have g:=E2 s ((s.size:Int)-1) (s.size-1) (by omega) (by omega);have i:=E2 s ((s.size:Int)-2) (s.size-2) (by omega) (by omega);have l:IntKind.i64.wrap ((s.size:Int)-1)=(s.size:Int)-1:=by rw[cV];omega
  have m:IntKind.i64.wrap ((s.size:Int)-2)=(s.size:Int)-2:=by rw[cV];omega
  by_cases a:(bl s).getD (s.size-1) 0=61
  .by_cases f:(bl s).getD (s.size-2) 0=61
   .have d:Hid (d' (bl s)=s.size-2):=by
     show _=_;unfold d';rw[c,aF (by rintro(h|h|h);exact b (.inl h);exact b (.inr h);exact h a),aG f]
    have j:=aA (show ((s.size-2:Nat):Int)=(s.size:Int)-2 by omega)
    rw[a]at g;rw[f]at i;clear a f b c;go_in;go_wp2_with fail;go_ret;exact⟨by rw[d.out,j.out];rfl,rfl⟩
   .have d:Hid (d' (bl s)=s.size-1):=by
     show _=_;unfold d';rw[c,aF (by rintro(h|h|h);exact b (.inl h);exact b (.inr h);exact h a),aF f]
    have j:=aA (show ((s.size-1:Nat):Int)=(s.size:Int)-1 by omega)
    have o:((((bl s).getD (s.size-2) 0).toNat:Int)==61)=false:=dI.2 fun e=>f (lP.1 (by show _=61;omega));rw[a]at g;generalize(((bl s).getD (s.size-2) 0).toNat:Int)=x at*
    clear a f b c;go_in;go_wp2_with fail;go_ret;exact⟨by rw[d.out,j.out];rfl,rfl⟩
  .have d:Hid (d' (bl s)=s.size):=by
    show _=_;unfold d';rw[c,aG (.inr (.inr a))]
   have o:((((bl s).getD (s.size-1) 0).toNat:Int) != 61)=true:=qp.2 fun e=>a (lP.1 (by show _=61;omega));generalize(((bl s).getD (s.size-1) 0).toNat:Int)=x at*
   clear a b c i;go_in;go_wp2_with fail;go_ret;exact⟨by rw[d.out];rfl,rfl⟩
def aZ.neMap{w:aB}{base:Nat}{v:Value}{l:aM}(h:aZ w base v l){k:Nat}{c:Array MapEntry}{n:Nat}(f:w.heap[k]? =some (.map c n)):v.ownBlock≠some k:=by
 obtain⟨_,d⟩:=h;rcases d with⟨rfl,_⟩|⟨g,a,b,rfl,_,hh,_⟩
 .simp[Value.ownBlock]
 .intro e
  have e':g=k:=by simpa[Value.ownBlock]using e
  rw[e',f]at hh
  cases hh
def tP(r X T base:Nat)(W:aB)(a:List Nat):Prop:=jO X T base UInt8.ofNat W a/\W.heap[r]? =some (mc 64)
def Rk(r X T base:Nat)(I:aB)(hT:T<X)(C:I.heap.size<=base)(a1:base<=T)(W:aB)(l:List Nat)(g:Nat)(fr b c:Int)(a2:l.length<=999000)(hg:g<256)(hS:tP r X T base W l)(B:fV W X fr 8 (.func (.func 323) #[] #[ptr T]) b c)(K:Gr I W):
  Calls prog 323 #[.int .i64 (g:Int),ptr T] W fun e z=>e=.returned (.tuple #[])/\tP r X T base z (l++[g])/\fV z X fr 8 (.func (.func 323) #[] #[ptr T]) b c/\Gr I z:=by
 obtain⟨⟨v,i,n,Y,Z⟩,h5⟩:=hS;have Q:=aA h5;have w:=aA (n.neMap h5);have x:r≠T:=fun e=>by rw[e,i]at h5;cases h5
 have y:=aA (bY.1 h5).1;clear h5;have hc:W.cell? (aD T 0)=some v:=bH (cs:=[v]) i 0;have hz:=(bY.1 i).1;obtain⟨d,E⟩:=ex (UInt8.ofNat g);have p:(d.toNat:Int)=(g:Int):=by rw[<-E,p9];omega
 have a3:IntKind.u8.wrap (g:Int)=(d.toNat:Int):=by rw[p];unfold IntKind.wrap;simp[IntKind.bits,IntKind.signed];omega
 have H:v.ownBlock≠some T:=n.ne i (aH rfl);have N:=aA i;have J:=aA n;have R:=aA B;have P:=aA K;have S:Hid (∀k,v.ownBlock=some k->k<X\/X+4<k):=B.away n;have O:=aA E;clear i n B K Y Z E p;unfold ptr;go_in;have U:=aA (J.gr ((Gr.refl W).alloc (.cells #[.int .u8 (d.toNat:Int)] 5)));have V:Hid (aZ (W.alloc (.cells #[.int .u8 (d.toNat:Int)] 5)) base (aR (W.heap.size) 0 1 1) [d]):=aZ.made (l:=[d]) (cM W _) (by omega) (by simp);have z7:base<=(W.alloc (.cells #[.int .u8 (d.toNat:Int)] 5)).heap.size:=by simp;omega
 have M:=aA ((((Gr.refl W).alloc (.cells #[.int .u8 (d.toNat:Int)] 5)).block hz).trans N);go_wp2_with (at_builtin;refine pp _ rfl _ _ rfl base v (l.map UInt8.ofNat) (by simp[Act.eval]) U (aR (W.heap.size) 0 1 1) [d] (by simp[Act.eval]) V (l.length+1) (by simp) (by omega) z7 ?_;intro h f j s a;have m:=eH a M H;have c3:j.cell? (aD T 0)=some v:=bH (cs:=[v]) m 0;have f3:=ee (cs:=[v]) m 0;have z3:=(bY.1 m).1);have D:Hid ((j.setCell (aD T 0) (.slice h (l.length+1) f)).heap[T]? =some (.cells #[.slice h (l.length+1) f] 94)):=fC j T 0 _ _ _ m
 have t:=aA (s.set T 0 (.slice h (l.length+1) f) (s.ne m (aH rfl)));have u:=aA (((R.gr ((Gr.refl W).alloc _)).grown a S).grown (lG j T 0 (.slice h (l.length+1) f)) (fun k hk=>by cases hk;exact .inl hT));have F:=aA (((P.trans ((Gr.refl W).alloc _)).grown a (fun k hk=>eu C (fA J k hk).1)).setOwn (b:=T) (o:=0) (by omega) (.slice h (l.length+1) f));have G:Hid ((j.setCell (aD T 0) (.slice h (l.length+1) f)).heap[r]? =some (mc 64)):=(cG j (aD T 0) r _ x).trans (eH a ((((Gr.refl W).alloc _).block y).trans Q) w)
 go_end0
 have L:=u.away t;have e:(l++[g]).map UInt8.ofNat=l.map UInt8.ofNat++[d]:=by rw[gD,<-O.out];rfl
 refine⟨rfl,⟨⟨.slice h (l.length+1) f,D,by rw[e];exact t,fun q=>?_,fun q=>?_⟩,G⟩,u,F⟩
 .have:=L _ q;omega
 .have:=L _ q;omega
def act(r X T base:Nat)(i:aB)(j:T<X)(s:X+4<r)(d:i.heap.size<=base)(e:base<=T):Br 8 X i 323 T (tP r X T base):=
 ⟨lV func323 (by kernel_rfl) rfl,fun W l k u q h=>⟨jO.set j W l k u q h.1,(cG W (aD k 0) r u (by show r≠k;omega)).trans h.2⟩,fun W m l h a=>⟨jO.gr W m l h.1 a,(a.block (bY.1 h.2).1).trans h.2⟩,fun W l g fr b c f a p o n=>Rk r X T base i j d e W l g fr b c f a p o n⟩
def Ab(s:aT):d' s<=s.length:=by
 unfold d';repeat' split
 all_goals omega
def Wq{s:aT}{k:Nat}(e:k<d' s)(b:fp (s.getD k 0)=false):oB s<d' s:=by
 unfold oB;have f:(s.take (d' s)).length=d' s:=by rw[dP];have:=Ab s;omega
 rcases th ((s.take (d' s)).takeWhile fp).length (d' s)with h|h
 .exact h
 .exfalso
  have c:=C8 (p:=fp) (s:=s.take (d' s)) (by omega);have a:=Ab s;have d:s.getD k 0∈s.take (d' s):=by
   rw[eD,cO (show k<s.length by omega),nj];exact List.mem_iff_getElem.2 ⟨k,by omega,by simp⟩
  have:=gY.1 c _ d;rw[b]at this;cases this
def UD{s:aT}(h:(s.take (d' s)).all fp=true):¬oB s<d' s:=by
 unfold oB;rw[xn h,dP];have:=Ab s;omega
def Jt{s:aT}{k:Nat}(h:k<s.length):s.getD k 0=s[k]:=by
 rw[eD,cO h,nj]
def TC(s:aT)(k:Nat)(h:k<s.length):cJ 8 (e_ (s.take (k+1)))=((cJ 8 (e_ (s.take k))).1++(cJ 8 ((cJ 8 (e_ (s.take k))).2++eN 6 (gN (s.getD k 0)).toNat)).1,(cJ 8 ((cJ 8 (e_ (s.take k))).2++eN 6 (gN (s.getD k 0)).toNat)).2):=by
 have e:e_ (s.take (k+1))=e_ (s.take k)++eN 6 (gN (s.getD k 0)).toNat:=by
  rw[eF h,Jt h];unfold e_;rw[pG];simp
 rw[e];exact yu (aH rfl) _ _ _ (aU _)
def Rq(s:aT)(k:Nat)(h:k<s.length)(b:(s.take k).all fp=true)(a:fp (s.getD k 0)=true):(s.take (k+1)).all fp=true:=by
 rw[eF h,rW,b];rw[Jt h]at a;simp[a]
def NP(s:aT)(w:aB)(e:Ending)(w':aB):Prop:=∃v a,e=.returned (.tuple #[v,.int .i64 a,.int .i64 (fD s)])/\aZ w' w.heap.size v (if fD s=0 then ie s else[])/\Gr w w'
def B'{s:aT}{w w':aB}{a e:Int}(b:fD s=e)(c:e≠0)(d:Gr w w'):NP s w (.returned (.tuple #[.slice none 0 0,.int .i64 a,.int .i64 e])) w':=by
 refine⟨_,a,by rw[b],?_,d⟩;rw[b,aF c];exact FC _ _ _ _
def Xq(s:aJ)(w:aB)(hA:iD w)(hs:s.size<=1000000):Calls prog 317 #[.string s] w (NP (bl s) w):=by
 by_cases b:174764<s.size
 .have h:=aA (show fD (bl s)=5 by unfold fD;rw[bN,aG b])
  have a9:(174764:Int)<(s.size:Int):=by omega
  clear b;go_in;go_wp2_with (go_at_call 321;refine dK (Lr _) ?_)
  go_ret3
  exact B' h (aH rfl) (Gr.refl w)
 .have a9:¬(174764:Int)<(s.size:Int):=by omega
  have ae:d' (bl s)<=s.size:=by have:=Ab (bl s);rwa[bN]at this
  have h:Hid (fD (bl s)=if oB (bl s)<d' (bl s)then 6 else if s.size%4≠0 then 4 else if bT (cJ 8 (e_ ((bl s).take (d' (bl s))))).2≠0 then 3 else 0):=by
   show _=_;unfold fD rz;rw[bN,aF b]
  have HB:Hid (ie (bl s)=(cJ 8 (e_ ((bl s).take (d' (bl s))))).1.map UInt8.ofNat):=rfl;have z:Hid (∀k,k<d' (bl s)->fp ((bl s).getD k 0)=false->oB (bl s)<d' (bl s)):=fun k h1 h2=>Wq h1 h2;have u:Hid (((bl s).take (d' (bl s))).all fp=true->¬oB (bl s)<d' (bl s)):=UD;have p:Hid (∀W,Calls prog 322 #[.string s] W fun e w'=>e=.returned (.int .i64 (d' (bl s):Nat))/\W=w'):=fun W=>aaC s W hs;generalize d' (bl s)=n at*
  generalize oB (bl s)=bd at*
  obtain⟨N,hN,a6⟩:∃N:Nat,((n:Int)*6)/8=(N:Int)/\N<=140000:=⟨(n*6)/8,by omega,by omega⟩;have ad:∀w,(Instr.makeSlice 94 (.int .i64 0) (.int .i64 (((n:Int)*6)/8))).run prog w=.ok (aR (w.heap.size) 0 0 N) (w.alloc (.cells (madeCells #[.int .u8 0] N) 5)):=by
   rw[hN];exact xp N (by omega)
  have K:=aA ((aZ.fresh w w.heap.size N w.heap.size rfl (aU _) (by omega)).gr ((Gr.refl _).alloc (.cells #[aR (w.heap.size) 0 0 N] 94)));have D:=aA (lh w (.cells (madeCells #[.int .u8 0] N) 5) (.cells #[aR (w.heap.size) 0 0 N] 94));have J:=aA (((Gr.refl w).alloc (.cells (madeCells #[.int .u8 0] N) 5)).alloc (.cells #[aR (w.heap.size) 0 0 N] 94));have Q:=aA (show ((w.alloc (.cells (madeCells #[.int .u8 0] N) 5)).alloc (.cells #[aR (w.heap.size) 0 0 N] 94)).heap.size=w.heap.size+2 by simp)
  have HA:=aA hA;clear hA hN b;go_in;go_wp2_with (first|(go_at_call 321;refine dK (Lr _) ?_)|(go_at_call 322;refine dK (p _) ?_));generalize(w.alloc (.cells (madeCells #[.int .u8 0] N) 5)).alloc (.cells #[aR (w.heap.size) 0 0 N] 94)=U0 at*
  refine(Kz 6 8 (.func 323) #[] #[ptr (w.heap.size+1)] U0).mono ?_;rintro e U1 ⟨rfl,hr,hg,a1⟩;generalize U0.heap.size=X at*
  have hX:=Q.out;have q:=aA (J.trans hg);have L:=aA hr;have M:Hid (jO X (w.heap.size+1) w.heap.size UInt8.ofNat U1 []):=⟨_,(hg.block (bY.1 D).1).trans D,K.gr hg,by simp[Value.ownBlock];omega,by simp[Value.ownBlock];omega⟩;have ah:w.heap.size<=X:=by omega
  have R:=aA (OG U1 (HA.gr q));have a7:w.heap.size+1<X:=by omega
  have a5:=aA a1;clear hr hg Q K D J ad HA a1 hX;unfold Di Cp ptr;go_wp2_with fail;refine R.mono ?_;rintro e U2 ⟨r,rfl,af,Y,m⟩;have HP:=aA (act r X (w.heap.size+1) w.heap.size w a7 (by have:=a5.out;omega) (aU _) (by omega));have B:=aA (L.gr m);have C:Hid (tP r X (w.heap.size+1) w.heap.size U2 []):=⟨jO.gr _ _ _ M m,Y⟩;have t:=aA (q.trans m);have y:=aA (show n<=(bl s).length by rw[bN];exact ae)
  have a:Hid (∀k,k<=(bl s).length->8*(cJ 8 (e_ ((bl s).take k))).1.length+(cJ 8 (e_ ((bl s).take k))).2.length=6*k/\(cJ 8 (e_ ((bl s).take k))).2.length<8):=fun k hk=>⟨by rw[xw (aH rfl),zA,dP,tS hk],sM (aH rfl) _ _ (aU _)⟩;clear af Y m L M q R a6;go_wp2_with fail
  go_loopw [32] (fun i wr=>∃k:Nat,k<=n/\i=.int .i64 k/\Hid (((bl s).take k).all fp=true)/\Hid (fV wr X 6 8 (.func (.func 323) #[] #[ptr (w.heap.size+1)]) (bT (cJ 8 (e_ ((bl s).take k))).2:Nat) ((cJ 8 (e_ ((bl s).take k))).2.length:Nat))/\Hid (tP r X (w.heap.size+1) w.heap.size wr (cJ 8 (e_ ((bl s).take k))).1)/\Hid (Gr w wr)) (fun i _=>n-(intOf i).toNat)
  .exact⟨0,bW _,rfl,rfl,B,C,t⟩
  .
   obtain⟨k,hk,rfl,l,F,G,S⟩:=hrel;by_cases ab:k<n
   .have aa:(k:Int)<(n:Int):=by omega
    have U:k<(bl s).length:=by have:=y.out;omega
    have a8:=E2 s (k:Int) k rfl (by omega);rcases Qt (P:=prog) underlying395 underlying5 (W:=wr) (r:=r) G.out.2 ((bl s).getD k 0) (.int .i64 0) (by kernel_rfl)with⟨hb,hl⟩|⟨hb,hl⟩
    .have d:=aA (show fD (bl s)=6 by rw[h.out,aG (z.out k ab hb)])
     generalize(bl s).getD k 0=c at*
     generalize c.toNat=x at*
     clear hb;go_wp2_with fail
     go_ret3
     exact B' d (aH rfl) S
    .have O:=aA (TC (bl s) k U)
     have a2:=aA (Rq (bl s) k U l hb);obtain⟨q1,H⟩:=a.out k (by omega);obtain⟨-,o⟩:=Cu _ hb;have T:gN ((bl s).getD k 0)=((gN ((bl s).getD k 0)).toNat:Int):=by
      unfold fp at hb;have:=oG hb;omega
     have I:=aA (Y6 X 323 (w.heap.size+1) (tP r X (w.heap.size+1) w.heap.size) w HP ah (cJ 8 (e_ ((bl s).take k))).2 H (gN ((bl s).getD k 0)).toNat o (cJ 8 (e_ ((bl s).take k))).1 (by have:=y.out;rw[bN]at this;omega) wr F G S);rw[T]at hl;generalize(gN ((bl s).getD k 0)).toNat=g at*
     generalize((bl s).getD k 0).toNat=x at*
     clear q1 H F G T o hb;go_wp2_with fail;refine I.mono ?_;rintro e W3 ⟨rfl,V,Z,f⟩;have a3:=aA V;have a4:=aA Z;have j:=aA f;clear V Z f I hl a8;go_wp2_with fail;go_roundw
     .exact⟨k+1,by omega,by go_num,a2,by show fV _ _ _ _ _ _ _;rw[O.out];exact a3,by show tP _ _ _ _ _ _;rw[O.out];exact a4,j⟩
     .simp[intOf];omega
   .have aa:¬(k:Int)<(n:Int):=by omega
    obtain rfl:k=n:=by omega
    have E:=u l;rw[aF E]at h;obtain⟨q1,H⟩:=a.out k y.out;generalize cJ 8 (e_ ((bl s).take k))=rr at*
    obtain⟨gs,left⟩:=rr;simp only at F G q1 H h HB;by_cases h4:s.size%4=0
    .rw[aF (by simp[h4])]at h
     have ac:((s.size:Int)%4 != 0)=false:=DS.2 (by omega);have HLF:=aA (Lz X 6 8 _ _ _ wr F);clear E h4 z u p HP B C t a q1 H F l;unfold ptr at HLF;go_wp2_with fail;refine bA HLF fun W3 f=>?_;have j:=aA (S.trans f);obtain⟨v,h1,h2,-,-⟩:=jO.gr _ _ _ G.out.1 f;have hc:W3.cell? (aD (w.heap.size+1) 0)=some v:=bH (cs:=[v]) h1 0;have H2:=aA h2;clear h1 h2 f HLF G S;by_cases hv:bT left=0
     .have ag:((bT left:Int) != 0)=false:=DS.2 (by omega)
      have d:=aA (show fD (bl s)=0 by rw[h.out,aF (by simp[hv])])
      generalize bT left=vl at*
      clear hv;go_wp2_with fail
      go_ret3
      exact⟨v,0,by rw[d.out];rfl,by rw[d.out,aG rfl,HB.out];exact H2,j⟩
     .have ag:((bT left:Int) != 0)=true:=qp.2 (by omega)
      have d:=aA (show fD (bl s)=3 by rw[h.out,aG hv])
      generalize bT left=vl at*
      clear hv;go_wp2_with fail
      go_ret3
      exact B' d (aH rfl) j
    .rw[aG h4]at h
     have ac:((s.size:Int)%4 != 0)=true:=qp.2 (by omega);clear E h4 z u p HP B C t a q1 H F l;go_wp2_with fail
     go_ret3
     exact B' h (aH rfl) S
def lW(W:aB)(b:Nat)(v:Value)(e:Int):Prop:=W.heap[b]? =some (.cells #[v,.int .i64 e] 392)
def lW.facts{W:aB}{b:Nat}{v:Value}{e:Int}(h:lW W b v e):W.cell? (aD b 0)=some v/\W.cell? (aD b 1)=some (.int .i64 e)/\(∀k,W.frozen? (aD b k)=false)/\b<W.heap.size:=
 ⟨bH (cs:=[v,.int .i64 e]) h 0,bH (cs:=[v,.int .i64 e]) h 1,fun k=>ee (cs:=[v,.int .i64 e]) h k,(bY.1 h).1⟩
def lW.gr{W a:aB}{b:Nat}{v:Value}{e:Int}(h:lW W b v e)(c:Gr W a):lW a b v e:=(c.block (bY.1 h).1).trans h
def nz(e:Int)(n:Nat):Int:=if e=0 then(if 0<n then 5 else 0)else e
def J0(b:Nat)(a:dB)(n c:Nat)(e:Int)(W:aB)(h:lW W b (.slice a n c) e):Calls prog 306 #[bZ b] W fun x k=>x=.returned (.int .i64 (nz e n))/\W.grownBy k (some b):=by
 obtain⟨m,o,j,p⟩:=h.facts;have l:=j 1;by_cases f:e=0
 .subst f
  by_cases g:0<n
  .have i:(0:Int)<(n:Int):=by omega
   have d:=aA (show nz 0 n=5 by unfold nz;rw[aG rfl,aG g])
   go_in;go_wp2_with fail;go_ret;exact⟨by rw[d.out];rfl,lG _ _ _ _⟩
  .have i:¬(0:Int)<(n:Int):=by omega
   have d:=aA (show nz 0 n=0 by unfold nz;rw[aG rfl,aF g])
   go_in;go_wp2_with fail;go_ret;exact⟨by rw[d.out];rfl,na _ _⟩
 .have i:(e==0)=false:=dI.2 f
  have d:=aA (show nz e n=e by unfold nz;rw[aF f])
  go_in;go_wp2_with fail;go_ret;exact⟨by rw[d.out];rfl,na _ _⟩
def V6(n:Nat):madeCells #[.int .u8 0] n=((List.replicate n (0:UInt8)).map cU).toArray:=by
 apply Array.ext';rw[toList_madeCells_one,List.map_replicate];rfl
def oF(e:Int):Int:=if e=0 then 4 else e
def Qo(n:Nat)(h:n<=16)(w:aB):(Instr.makeSlice 94 (.int .i64 (n:Int)) (.int .i64 (n:Int))).run prog w=.ok (aR (w.heap.size) 0 n n) (w.alloc (.cells (madeCells #[.int .u8 0] n) 5)):=by
 obtain⟨i,hi,a⟩:=o4.1 AE;simp only[rk]at a;obtain⟨e,d,c⟩:=a;have b:=run_make (P:=prog) w 94 5 i (.int .u8 0) underlying94 hi e .i64 .i64 n n (by omega) (by omega) (by rw[c];omega) (by omega);rw[d]at b;simp only[ld,m_]at b;exact b
def Fq(b:Nat)(a:dB)(m c n:Nat)(e:Int)(W:aB)(h:lW W b (.slice a m c) e)(o:n<=16)(l:e≠0\/m<n):Calls prog 305 #[bZ b,.int .i64 n] W fun x k=>∃g,x=.returned (aR g 0 n n)/\cS k g 0 (List.replicate n 0)/\lW k b (.slice a m c) (oF e)/\W.grownBy k (some b):=by
 obtain⟨y,z,p,D⟩:=h.facts;have q:=p 1;have H:=aA h;have v:=Qo n o
 have d:Hid (∀(w:aB) (g:Nat),g=w.heap.size->cS (w.alloc (.cells (madeCells #[.int .u8 0] n) 5)) g 0 (List.replicate n 0)):=fun w g r=>by
  subst r;rw[V6 n];exact⟨by simp,fun j x s=>by rw[fB,bH (cM w _),fo,s];rfl⟩
 by_cases f:e=0
 .subst f
  have t:m<n:=by rcases l with h|h;exact absurd rfl h;exact h
  have u:(m:Int)<(n:Int):=by omega
  have i:Hid (oF 0=4):=rfl;go_in;go_wp2_with fail;go_ret;refine⟨_,rfl,d _ _ (by simp),?_,dG (lG _ _ _ _) (dW ((Gr.refl _).alloc _))⟩;rw[i.out];exact lW.gr (fC W b 1 _ _ _ H) ((Gr.refl _).alloc _)
 .have B:(e==0)=false:=dI.2 f
  have C:(e != 0)=true:=qp.2 f;have i:=aA (show oF e=e by unfold oF;rw[aF f])
  go_in;go_wp2_with fail;go_ret;refine⟨_,rfl,d _ _ (by simp),?_,dW ((Gr.refl _).alloc _)⟩;rw[i.out];exact H.gr ((Gr.refl _).alloc _)
def Vw(b g o c n:Nat)(l:aM)(W:aB)(h:lW W b (aR g o l.length c) 0)(q:cS W g o l)(k:l.length<=c)(s:n<=l.length)(r:l.length<=1000000):Calls prog 305 #[bZ b,.int .i64 n] W fun x f=>x=.returned (aR g o n c)/\(∃a,lW f b (.slice a (l.length-n) (c-n)) 0/\(c≠n->a=some (aD g (o+n))))/\W.grownBy f (some b):=by
 obtain⟨u,v,j,B⟩:=h.facts;have p:=j 0;have H:=aA h;generalize l.length=m at*
 have w:¬(m:Int)<(n:Int):=by omega
 have y:(n:Int)<=(c:Int):=by omega
 have z:(n:Int)<=(m:Int):=by omega
 have t:(((m-n:Nat)):Int)=(m:Int)-(n:Int):=by omega
 have e:Hid (∀a,lW (W.setCell (aD b 0) (.slice a (m-n) (c-n))) b (.slice a (m-n) (c-n)) 0):=fun a=>fC W b 0 _ _ _ H;clear t k s;by_cases d:c=n
 .subst d
  go_in;go_wp2_with fail;go_ret;refine⟨rfl,⟨some (aD g o),?_⟩,lG _ _ _ _⟩;have h:=e (some (aD g o));rw[qR]at h;exact h
 .have i:¬(n:Int)=(c:Int):=by omega
  go_in;go_wp2_with fail;go_ret;exact⟨rfl,e _,lG _ _ _ _⟩
def Xv:∀x:UInt8,bits .or .i64 0 (x.toNat:Int)=(x.toNat:Int):=qA (by decide+kernel)
def Is(b:Nat)(f:UInt8)(R:aB->Prop)(W:aB)(k:Calls prog 305 #[bZ b,.int .i64 1] W fun x h=>∃g o c,x=.returned (aR g o 1 c)/\h.cell? (aD g o)=some (cU f)/\R h):
  Calls prog 304 #[bZ b,.int .i64 1] W fun x h=>x=.returned (.int .i64 (f.toNat:Int))/\R h:=by
 have d:=aA k;go_in;go_wp2_with fail;refine d.mono ?_;rintro e l ⟨g,o,c,rfl,hc,m⟩;have n:=aA m;have r:=ka l _ hc;simp only at r;have j:=Xv f;have q:=f.toNat_lt;unfold cU at hc;obtain⟨x,a⟩:=ex f.toNat;rw[a]at hc j q;have p:=aA a;go_wp2_with fail
 go_loopw [5,12] (fun v i wr=>wr=l/\((i=.int .i64 0/\v=.int .i64 0)\/(i=.int .i64 1/\v=.int .i64 (x:Int)))) (fun _ i _=>1-(intOf i).toNat)
 .exact⟨rfl,.inl ⟨rfl,rfl⟩⟩
 .
  obtain⟨rfl,⟨rfl,rfl⟩|⟨rfl,rfl⟩⟩:=hrel
  .go_wp2_with fail
   go_roundw
   .first|exact⟨eV,.inr ⟨rfl,rfl⟩⟩|exact⟨rfl,.inr ⟨rfl,rfl⟩⟩
   .simp[intOf]
  .go_wp2_with fail
   go_ret;exact⟨by rw[p.out];rfl,n⟩
section
@[go_sem ↓ high] def afI (w:aB):Sem.run prog (zeroValue 44) w=.ok (aE (aN 0 aQ)) w:=by kernel_rfl
@[go_sem ↓ high] def af4 (w:aB) (t:TypeId) (b:Nat) (h a:Int) (r c:cE) (d:b=w.heap.size):(w.alloc (aC (aN h r) t)).setCells b 0 (aN a c)=w.alloc (aC (aN a c) t):=by
 have e:=qO w t b d [] (aN a c) [] (aN h r) (by rw[bG,bG]);simpa using e
attribute [local go_sem] zD
def aav(a:dB)(n c:Nat)(e:Int)(w:aB):(Instr.build 392 #[(0,.slice a n c),(1,.int .i64 e)]).run prog w=.ok (.agg #[.slice a n c,.int .i64 e]) w:=by kernel_rfl
@[go_sem] def kRd (a:dB) (n c:Nat) (e:Int) (w:aB):eG prog 392 #[(0,.slice a n c),(1,.int .i64 e)] w=.ok (.value (.agg #[.slice a n c,.int .i64 e])) w:=fe (aav a n c e w)
def MO(s:aT)(w:aB)(x:Ending)(w':aB):Prop:=∃b v,x=.returned (bZ b)/\w.heap.size<=b/\lW w' b v (fD s)/\aZ w' w.heap.size v (if fD s=0 then ie s else[])/\Gr w w'
def OP(s:aJ)(w:aB)(o:iD w)(r:s.size<=1000000):Calls prog 303 #[.string s] w (MO (bl s) w):=by
 have k:=aA (Xq s w o r);go_in;go_wp2_with fail;refine k.mono ?_;rintro e d ⟨v,t,rfl,i,g⟩;obtain⟨a,c,rfl⟩:=i.shape;have n:=aA i;have q:=aA g;have j:=g.size;have f:Hid (∀x w',(∃b v,x=.returned (bZ b)/\w.heap.size<=b/\lW w' b v (fD (bl s))/\aZ w' w.heap.size v (if fD (bl s)=0 then ie (bl s)else[])/\Gr w w')->MO (bl s) w x w'):=fun x w' h=>h;generalize(if fD (bl s)=0 then ie (bl s)else[])=l at*
 generalize fD (bl s)=u at*
 obtain⟨m,p⟩:=ex l.length;rw[p]at n|-
 go_wp2_with fail;go_ret;exact f _ _ ⟨d.heap.size,_,rfl,j,cM d _,n.gr ((Gr.refl d).alloc _),q.trans ((Gr.refl d).alloc _)⟩
def fW(s:aT):Int:=if fD s≠0 then fD s else if(ie s).length<17 then 4 else if 17<(ie s).length then 5 else cH (((ie s).headD 0).toNat:Int)
def k_(s:aT):Int:=if fW s=0 then(((ie s).headD 0).toNat:Int)else 0
def kP(s:aT):cE:=if fW s=0 then lX 16 ((ie s).drop 1)else aQ
def NJ:bF:=aN 0 aQ
def SX{s:aT}{e:Int}(h:fW s=e)(a:e≠0):aN (k_ s) (kP s)=NJ:=by
 unfold k_ kP NJ;rw[h,aF a,aF a]
def U9{n:Nat}{l:aM}(h:l.length=n):l.map cU=bC (lX n l):=by unfold bC;rw[rM h];rfl
def jT{P:Program}{fn:Func}{p u1:Tmp}{ty:TypeId}(h:fn.results=#[.cell p ty,.tmp u1])(a:Array Value)(w:aB)(g:Nat)(t:TypeId)(cs:Array Value)(fr:Nat×Nat)(d:TypeDesc)
  (f:a.getD p undef=bZ g) (e:w.heap[g]? =some (.cells cs t fr))
  (i:P.underlying ty=some d) (c:(match d with| .struct _| .array _ _=>true|_=>false)=true) (hi:(P.info? ty).map (·.size)=some cs.size):
  (results fn a).run P w=.ok (.tuple #[.agg cs,a.getD u1 undef]) w:=by
 have b:a[p]?.getD undef=bZ g:=by simpa using f
 simp[results,h,b,asAddr,uM w g t ty cs fr d e i c hi]
def rS(h:Int)(r:cE)(e:Int)(w:aB)(x:Ending)(w':aB):Prop:=x=.returned (.tuple #[aE (aN h r),.int .i64 e])/\Gr w w'
def DC(s:aJ)(w:aB)(z:UInt8)(U:aM)(hy:U.length=16)(n:Int)(Q0 Q1 T:Nat->aB->Prop)
  (G:∀W,Gr w W->Calls prog 303 #[.string s] W fun x a=>∃b,x=.returned (bZ b)/\W.heap.size<=b/\b<a.heap.size/\Q0 b a/\Gr W a)
  (H1:∀b W,Q0 b W->Calls prog 304 #[bZ b,.int .i64 1] W fun x a=>x=.returned (.int .i64 (z.toNat:Int))/\Q1 b a/\W.grownBy a (some b))
  (H2:∀b W,Q1 b W->Calls prog 305 #[bZ b,.int .i64 16] W fun x a=>∃g o c,x=.returned (aR g o 16 c)/\cS a g o U/\T b a/\W.grownBy a (some b))
  (Hg:∀b W a,T b W->Gr W a->T b a)
  (H3:∀b W,T b W->Calls prog 306 #[bZ b] W fun x a=>x=.returned (.int .i64 n)/\W.grownBy a (some b)):
  Calls prog 284 #[.string s] w fun x a=>(n≠0->rS 0 aQ n w x a)/\(n=0->cH (z.toNat:Int)≠0->rS 0 aQ (cH (z.toNat:Int)) w x a)/\(n=0->cH (z.toNat:Int)=0->rS (z.toNat:Int) (lX 16 U) 0 w x a):=by
 have g0:=(Gr.refl w).alloc (aC (aN 0 aQ) 44);have HR:=aA (G _ g0);have K1:=aA H1;have K2:=aA H2;have K3:=aA H3;have KG:=aA Hg;have B0:=aA (cM w (aC (aN 0 aQ) 44));have G0:=aA g0;have HY:=aA hy;clear G H1 H2 H3 Hg g0 hy;go_in;go_wp2_with fail;refine HR.mono ?_;rintro e w1 ⟨b,rfl,hb,J,M,q⟩;have X:=aA J;have B1:=aA ((q.block (bY.1 B0).1).trans B0);have G1:=aA (G0.trans q);have E:=aA M;have a1:w.heap.size<b:=by simp at hb;omega
 clear M q hb J HR;go_wp2_with fail;refine(K1 _ _ E).mono ?_;rintro e w2 ⟨rfl,N,f⟩;have B2:=aA (eH f B1 (by simp;omega));have G2:=aA (G1.grown f (fun k hk=>by cases hk;omega));have F:=aA N;have Y:=aA (dQ X f.size);clear N f B1 G1 E;obtain⟨x,hx⟩:∃x:Int,(z.toNat:Int)=x:=⟨_,rfl⟩;rw[hx];have S:=aA hx;clear hx;go_wp2_with fail;refine(K2 _ _ F).mono ?_;rintro e y ⟨g,o,c,rfl,p,O,i⟩;have V:=aA (eH i B2 (by simp;omega));have G3:=aA (G2.grown i (fun k hk=>by cases hk;omega));obtain⟨r1,r2⟩:=p.row HY.out;rw[U9 HY.out]at r2;have a5:=p.1;have Z:=aA (dQ Y i.size);have a7:=(bY.1 V).1;obtain⟨R,hR⟩:∃R:cE,lX 16 U=R:=⟨_,rfl⟩;rw[hR]at r2;have a3:=aA hR;have D:=aA (cM y (aC (aN x R) 44));have C:=aA (K3 b (y.alloc (aC (aN x R) 44)) (KG _ _ _ O ((Gr.refl y).alloc _)));have a4:∀w,(Instr.arrayAt 22 (aR g o 16 c)).run prog w=.ok (.pointer (some (aD g o))) w:=fun w=>run_arrayAt (w:=w) 22 5 16 _ 16 c underlying22 (aU _);clear p O i B2 G2 F hR;go_wp2_with fail;refine bA C fun w5 j=>?_;have a8:w.heap.size<b:=a1;have H:=eH j D (by have:=Z.out;simp;omega);have v:=eH j (((Gr.refl y).alloc (aC (aN x R) 44)).block a7 |>.trans V) (by simp;omega);have u1:=aP H 0 17 (by rw[bG];decide);have u2:=(bJ H 0 17 (by rw[bG];decide)).trans (b_ _ _ (bG _ _));have t:=(bY.1 H).1;have t1:=aP v 0 17 (by rw[bG];decide);have t2:=bE v 0 17;have t3:=(bJ v 0 17 (by rw[bG];decide)).trans (b_ _ _ (bG _ _));have u:=(bY.1 v).1;have G5:=aA ((G3.trans ((Gr.refl y).alloc (aC (aN x R) 44))).grown j (fun k hk=>by cases hk;omega));have m:=aA v;have I:=aA H;clear H v j C D G3 V r1 r2 a5 a4;by_cases K:n=0
 .subst K
  go_wp2_with fail;refine bA (pf x R w5) fun Q l=>?_;have P6:Hid (HB Q (y.heap.size) (aN x R) 44):=(l.block t).trans I
  have B:=aA ((l.block u).trans m);have G6:=aA (G5.trans l);clear u1 u2 t t1 t2 t3 u l I m;have u1:=aP P6 0 17 (by rw[bG];decide);have u2:=(bJ P6 0 17 (by rw[bG];decide)).trans (b_ _ _ (bG _ _));have t:=(bY.1 P6).1;have t1:=aP B 0 17 (by rw[bG];decide);have t2:=bE B 0 17;have u:=(bY.1 B).1;by_cases L:cH x=0
  .rw[L]
   go_wp2_with fail;have P:=bO (cs:=aN x R) B (by simp only[bG]);have d:Gr w (Q.setCells w.heap.size 0 (aN x R)):=Gr.of_grownBy (ko (aU _) _ 0 Q (dW G6));refine bI (jT rfl _ _ w.heap.size _ _ _ _ rfl P underlying44 rfl (by rw[bQ,bG];kernel_rfl)) rfl ?_;exact⟨fun h=>absurd (by rw[S.out];exact L) h,fun _=>by rw[S.out,a3.out];exact⟨rfl,d⟩⟩
  .have a6:(cH x != 0)=true:=qp.2 L
   obtain⟨K,r⟩:=ex (cH x);rw[r]at a6|-
   have a2:=aA r;have HH:=aA L;clear L r;go_wp2_with fail;have P:=bO (cs:=aN 0 aQ) B (by simp only[bG]);have d:Gr w (Q.setCells w.heap.size 0 (aN 0 aQ)):=Gr.of_grownBy (ko (aU _) _ 0 Q (dW G6));refine bI (jT rfl _ _ w.heap.size _ _ _ _ rfl P underlying44 rfl (by rw[bQ,bG];kernel_rfl)) rfl ?_;exact⟨fun _=>by rw[S.out,a2.out];exact⟨rfl,d⟩,fun h=>absurd (by rw[<-S.out];exact h) HH⟩
 .have a9:(n != 0)=true:=qp.2 K
  go_wp2_with fail;have P:=bO (cs:=aN 0 aQ) m (by simp only[bG]);have d:Gr w (w5.setCells w.heap.size 0 (aN 0 aQ)):=Gr.of_grownBy (ko (aU _) _ 0 w5 (dW G5));refine bI (jT rfl _ _ w.heap.size _ _ _ _ rfl P underlying44 rfl (by rw[bQ,bG];kernel_rfl)) rfl ?_;exact⟨fun _=>⟨rfl,d⟩,fun h=>absurd h K,fun h=>absurd h K⟩
end
def cS.grown{w w':aB}{g o b:Nat}{l:aM}(h:cS w g o l)(a:w.grownBy w' (some b))(c:g≠b):cS w' g o l:=
 ⟨dQ h.1 a.size,fun j x d=>(vg (a.block g h.1 (fun e=>c (by simpa using e)))).trans (h.2 j x d)⟩
def cS.drop{w:aB}{g o:Nat}{l:aM}(h:cS w g o l)(n:Nat):cS w g (o+n) (l.drop n):=
 ⟨h.1,fun j x a=>by rw[kM]at a;rw[l8];exact h.2 _ _ a⟩
def cS.take{w:aB}{g o:Nat}{l:aM}(h:cS w g o l)(n:Nat):cS w g o (l.take n):=
 ⟨h.1,fun j x hj=>h.2 _ _ (by
  rw[mi]at hj;split at hj
  .exact hj
  .cases hj)⟩
def mj(l:aM)(e:Int)(b:Nat)(W:aB):Prop:=∃a c,lW W b (.slice a l.length c) e/\l.length<=c/\(l≠[]->∃g o,a=some (aD g o)/\cS W g o l/\g≠b)
def qm(e:Int)(b:Nat)(W:aB):Prop:=∃a m c,lW W b (.slice a m c) e
def RB{s:aT}{w w':aB}{b:Nat}{v:Value}{l:aM}(f:lW w' b v (fD s))(d:aZ w' w.heap.size v l):mj l (fD s) b w':=by
 have a:=d;obtain⟨r,m⟩:=a;rcases m with⟨k,a⟩|⟨g,c,i,rfl,t,o,n,r,u,y⟩
 .subst k
  have q:l=[]:=fQ.1 a;exact⟨none,0,by rw[a];exact f,by omega,fun h=>absurd q h⟩
 .refine⟨_,c,f,n,fun _=>⟨g,0,rfl,⟨(bY.1 o).1,fun j x p=>?_⟩,fun e=>?_⟩⟩
  .have:=World.ownsRow.cells d (g:=g) rfl j (cU x) (by rw[fo,p];rfl)
   rwa[fO]at this
  .have:=d.ne f (aH rfl)
   exact this (by rw[<-e];rfl)
def zL(e:Int):oF e≠0:=by unfold oF;split;decide;assumption
def Hy{e:Int}(h:e≠0):oF e=e:=by unfold oF;rw[aF h]
def abV{e:Int}(h:e≠0)(n:Nat):nz e n=e:=by unfold nz;rw[aF h]
def qm.gr{e:Int}{b:Nat}{W d:aB}(h:qm e b W)(f:Gr W d):qm e b d:=by
 obtain⟨a,m,c,h⟩:=h;exact⟨a,m,c,h.gr f⟩
def Qn(e:Int)(i:e≠0)(b:Nat)(W:aB)(h:qm e b W):Calls prog 305 #[bZ b,.int .i64 16] W fun x d=>∃g o c,x=.returned (aR g o 16 c)/\cS d g o (List.replicate 16 0)/\qm e b d/\W.grownBy d (some b):=by
 obtain⟨a,m,c,h⟩:=h;refine(Fq b a m c 16 e W h (aH rfl) (.inl i)).mono ?_;rintro x d ⟨g,j,k,f,l⟩;rw[Hy i]at f;exact⟨g,0,16,j,k,⟨a,m,c,f⟩,l⟩
def M5(e:Int)(f:e≠0)(b:Nat)(W:aB)(h:qm e b W):Calls prog 306 #[bZ b] W fun x d=>x=.returned (.int .i64 e)/\W.grownBy d (some b):=by
 obtain⟨a,m,c,h⟩:=h;have:=J0 b a m c e W h;rwa[abV f]at this
def zm{s:aT}{e:Int}{w w':aB}{x:Ending}(h:fW s=e)(a:e≠0)(b:rS 0 aQ e w x w'):rS (k_ s) (kP s) (fW s) w x w':=by
 unfold rS at*
 rw[SX h a,h];exact b
def YM(s:aT):(ie s).length<=s.length:=by
 unfold ie rz;rw[cL];have h:=xw (k:=8) (aH rfl) (e_ (s.take (d' s)));rw[zA,dP]at h;omega
def mj.gr{l:aM}{e:Int}{b:Nat}{W d:aB}(h:mj l e b W)(f:Gr W d):mj l e b d:=by
 obtain⟨a,c,i,j,k⟩:=h;exact⟨a,c,i.gr f,j,fun m=>by obtain⟨g,o,n,p,q⟩:=k m;exact⟨g,o,n,p.gr f,q⟩⟩
def Iq(n:Nat)(y:1<=n)(l:aM)(f:n<=l.length)(i:l.length<=1000000)(b:Nat)(W:aB)(h:mj l 0 b W):Calls prog 305 #[bZ b,.int .i64 n] W fun x d=>∃g o c,x=.returned (aR g o n c)/\cS d g o (l.take n)/\mj (l.drop n) 0 b d/\W.grownBy d (some b):=by
 obtain⟨a,c,r,s,t⟩:=h;obtain⟨g,o,rfl,k,m⟩:=t (fun e=>by rw[e]at f;simp at f;omega);refine(Vw b g o c n l W r k s f i).mono ?_;rintro x d ⟨rfl,⟨q,v,w⟩,p⟩;refine⟨g,o,c,rfl,(k.grown p m).take n,⟨q,c-n,by rw[eh];exact v,by rw[eh];omega,fun j=>?_⟩,p⟩;have u:n<l.length:=by
  rcases th n l.length with h|h
  .exact h
  .exact absurd (List.drop_eq_nil_iff.2 h) j
 exact⟨g,o+n,w (by omega),(k.grown p m).drop n,m⟩
def UE(s:aJ)(w:aB)(Q:iD w)(T:s.size<=1000000):Calls prog 284 #[.string s] w (rS (k_ (bl s)) (kP (bl s)) (fW (bl s)) w):=by
 have m:∀W,Gr w W->Calls prog 303 #[.string s] W fun x d=>∃b,x=.returned (bZ b)/\W.heap.size<=b/\b<d.heap.size/\mj (if fD (bl s)=0 then ie (bl s)else[]) (fD (bl s)) b d/\Gr W d:=fun W R=>(OP s W (Q.gr R) T).mono (fun x d ⟨b,v,p,u,E,O,P⟩=>⟨b,p,u,E.facts.2.2.2,RB E O,P⟩);have f:fW (bl s)=if fD (bl s)≠0 then fD (bl s)else if(ie (bl s)).length<17 then 4 else if 17<(ie (bl s)).length then 5 else cH (((ie (bl s)).headD 0).toNat:Int):=rfl
 have L:fW (bl s)=0->k_ (bl s)=(((ie (bl s)).headD 0).toNat:Int)/\kP (bl s)=lX 16 ((ie (bl s)).drop 1):=fun h=>⟨by unfold k_;rw[aG h],by unfold kP;rw[aG h]⟩;have B:(ie (bl s)).length<=1000000:=by have:=YM (bl s);rw[bN]at this;omega
 generalize fD (bl s)=e at*
 generalize ie (bl s)=l at*
 by_cases H:e≠0\/l=[]
 .have K:fW (bl s)=oF e:=by
   rw[f];by_cases D:e≠0
   .rw[aG D,Hy D]
   .have G:e=0:=by omega
    rw[aF D,G];rcases H with h|h
    .exact absurd h D
    .rw[h];rfl
  have S:∀n:Nat,1<=n->e≠0\/(if e=0 then l else[]).length<n:=fun n V=>by
   rcases H with h|h
   .exact .inl h
   .right;rw[h];split<;>(simp;omega)
  refine(DC s w 0 (List.replicate 16 0) rfl (oF e) (mj (if e=0 then l else[]) e) (qm (oF e)) (qm (oF e)) m ?_ (Qn _ (zL e)) (fun b W d h y=>h.gr y) (M5 _ (zL e))).mono ?_
  .intro b W ⟨a,c,p,u,E⟩
   refine Is b 0 (fun d=>qm (oF e) b d/\W.grownBy d (some b)) W ((Fq b a _ c 1 e W p (aH rfl) (S 1 (aU _))).mono ?_);rintro x d ⟨g,i,q,r,C⟩;exact⟨g,0,1,i,q.2 0 0 rfl,⟨a,_,c,r⟩,C⟩
  .rintro x d ⟨i,-,-⟩
   exact zm K (zL e) (i (zL e))
 .have I:e=0:=by omega
  have J:l≠[]:=fun h=>H (.inr h);subst I;rw[aF (by simp)]at f;simp only[vC]at m;obtain⟨j,t,rfl⟩:∃j t,l=j::t:=by cases l with|nil=>exact absurd rfl J|cons x t=>exact⟨x,t,rfl⟩
  have M:∀b W,mj (j::t) 0 b W->Calls prog 304 #[bZ b,.int .i64 1] W fun x d=>x=.returned (.int .i64 (j.toNat:Int))/\mj t 0 b d/\W.grownBy d (some b):=fun b W h=>by
   refine Is b j (fun d=>mj t 0 b d/\W.grownBy d (some b)) W ((Iq 1 (aU _) (j::t) (by simp) B b W h).mono ?_);rintro x d ⟨g,o,c,i,q,r,C⟩;exact⟨g,o,c,i,q.2 0 j rfl,r,C⟩
  simp only[dN]at f B;by_cases U:t.length<16
  .have K:fW (bl s)=4:=by rw[f,aG (by omega)]
   refine(DC s w j (List.replicate 16 0) rfl 4 (mj (j::t) 0) (mj t 0) (qm 4) m M ?_ (fun b W d h y=>h.gr y) (M5 _ (aH rfl))).mono ?_
   .intro b W ⟨a,c,p,u,E⟩
    refine(Fq b a _ c 16 0 W p (aH rfl) (.inr U)).mono ?_;rintro x d ⟨g,i,q,r,C⟩;exact⟨g,0,16,i,q,⟨a,_,c,r⟩,C⟩
   .rintro x d ⟨i,-,-⟩
    exact zm K (aH rfl) (i (aH rfl))
  .rw[aF (by omega)]at f
   refine(DC s w j (t.take 16) (by rw[dP];omega) (nz 0 (t.drop 16).length) (mj (j::t) 0) (mj t 0) (mj (t.drop 16) 0) m M (fun b W h=>Iq 16 (aH rfl) t (by omega) (by omega) b W h) (fun b W d h y=>h.gr y) (fun b W ⟨a,c,p,_,_⟩=>J0 b a _ c 0 W p)).mono ?_;rintro x d ⟨i,q,r⟩;rw[eh]at i q r;by_cases N:16<t.length
   .have F:nz 0 (t.length-16)=5:=by unfold nz;rw[aG rfl,aG (by omega)]
    rw[F]at i;exact zm (by rw[f,aG (by omega)]) (aH rfl) (i (aH rfl))
   .have F:nz 0 (t.length-16)=0:=by unfold nz;rw[aG rfl,aF (by omega)]
    rw[F]at q r;rw[aF (by omega)]at f;have k:fW (bl s)=cH (j.toNat:Int):=f;by_cases z:cH (j.toNat:Int)=0
    .obtain⟨p,u⟩:=L (k.trans z)
     have:=r rfl z;rw[eq (by omega)]at this;rw[p,u,k,z];exact this
    .exact zm k z (q rfl z)
section
attribute [local go_sem] zD
def iD.grown{w w':aB}{b:Nat}(h:iD w)(a:w.grownBy w' (some b))(c:3 <b):iD w':=fun i hi=>ur a (h i hi) (by simp;omega)
def PS.pubP(n:Nat)(p:PS):PS×Int×cE:=if(p.next n).2.2=true then((p.next n).1.fail (p.next n).1.start (fW (p.next n).2.1),k_ (p.next n).2.1,kP (p.next n).2.1)else((p.next n).1,0,aQ)
def dH.pub{s:aT}{p:PS}(h:dH s p)(n:Nat):dH s (p.pubP n).1:=by
 unfold PS.pubP;split
 .exact(h.next n).fail _ _
 .exact h.next n
def adX(b:Nat)(s:aJ)(p:PS)(w:aB)(h:ec w b s p)(hok:dH (bl s) p)(hs:s.size<=1000000)(T:ff w)(S:iD w)(hb:4 <b):
  Calls prog 262 #[bZ b] w (tK b s (p.pubP s.size).1 w (aE (aN (p.pubP s.size).2.1 (p.pubP s.size).2.2))):=by
 have hz:=h.facts.2.2.2.2.2.2;have t:=(Gr.refl w).alloc (aC (aN 0 aQ) 44);have C:=aA (uJ b s p _ (h.gr t) hok hs (T.gr t) hb);have B:=aA (cM w (aC (aN 0 aQ) 44));have z:=aA (dW (row:=some b) t);have I:=aA (S.gr t);have c:=aA (show(p.next s.size).2.2=true->_ from EJ hok s.size);have n:Hid (p.pubP s.size=if(p.next s.size).2.2=true then((p.next s.size).1.fail (p.next s.size).1.start (fW (p.next s.size).2.1),k_ (p.next s.size).2.1,kP (p.next s.size).2.1)else((p.next s.size).1,0,aQ)):=rfl;generalize p.next s.size=q at*
 obtain⟨F,x,ok⟩:=q;simp only at C n c
 cases ok with
 |false=>
  go_in;go_wp2_with fail;refine C.mono ?_;rintro e O ⟨rfl,u,a⟩;have j:=eH a B (by simp;omega);have u1:=aP j 0 17 (by rw[bG];decide);have f1:=bE j 0 17;have V:=aA (bO (cs:=aN 0 aQ) j rfl);have m:=aA (u.other (cD (b:=w.heap.size) (i:=b) (by omega) (aN 0 aQ) 0 O));have d:=aA (ko (b:=w.heap.size) (aU _) (aN 0 aQ) 0 O (dG z a));go_wp2_with fail;refine bI (dY rfl _ _ w.heap.size _ _ _ _ rfl V underlying44 rfl (by rw[bQ,bG];kernel_rfl)) rfl ?_;exact⟨by rw[n.out];rfl,by rw[n.out];exact m,d⟩
 |true=>
  have v:(bs x).size<=1000000:=by have:=c rfl;have e1:=bN (bs x);rw[oQ]at e1;rw[bN]at this;omega
  have L:Hid (∀W,iD W->Calls prog 284 #[.string (bs x)] W (rS (k_ x) (kP x) (fW x) W)):=fun W hW=>by
   have h:=UE (bs x) W hW v;rwa[oQ]at h
  have o:=aA (show p.pubP s.size=(F.fail F.start (fW x),k_ x,kP x) by rw[n.out,aG rfl])
  generalize fW x=er at*
  generalize k_ x=k at*
  generalize kP x=l at*
  go_in;go_wp2_with fail;refine C.mono ?_;rintro e O ⟨rfl,u,a⟩;have j:=eH a B (by simp;omega);have m:=aA u;have y:=aA j;have d:=aA (dG z a);have H:=aA (I.grown a (by omega));go_wp2_with fail;refine bA (L _ H) fun G f=>?_;have E:=f.trans ((Gr.refl G).alloc (aC (aN k l) 44));have N:=m.gr E;have P:=(E.block (bY.1 y).1).trans y;have Q:=cM G (aC (aN k l) 44);have J:=aA (dG d (dW (row:=some b) E));have a1:G.heap.size≠b:=fun e=>by have:=(bY.1 m).1;have:=f.size;omega
  have a2:G.heap.size≠w.heap.size:=fun e=>by have:=(bY.1 y).1;have:=f.size;omega
  have r:=aA (mH b s F F.start er _ N);have X:=aA P;have Z:=aA Q;obtain⟨d0,d1,d2,d3,d4,_,z3⟩:=N.facts;go_wp2_with fail;refine r.mono ?_;rintro e U ⟨rfl,R,g⟩;have D:=eH g X (by simp;omega);have M:=eH g Z (by simp;omega);have u1:=aP D 0 17 (by rw[bG];decide);have f1:=bE D 0 17;have k1:=aP M 0 17 (by rw[bG];decide);have k2:=(bJ M 0 17 (by rw[bG];decide)).trans (b_ _ _ (bG k l));have Y:=aA (bO (cs:=aN k l) D (by rw[bG,bG]));have H5:=aA (R.other (cD (b:=w.heap.size) (i:=b) (by omega) (aN k l) 0 U));have K:=aA (ko (b:=w.heap.size) (aU _) (aN k l) 0 U (dG J g));go_wp2_with fail;refine bI (dY rfl _ _ w.heap.size _ _ _ _ rfl Y underlying44 rfl (by rw[bQ,bG];kernel_rfl)) rfl ?_;exact⟨by rw[o.out],by rw[o.out];exact H5,K⟩
def SP{w:aB}{b:Nat}{c:Cm}{v:Value}{t:TypeId}(h:HB w b (aL c v) t) (a:Int) (r:cE):HB (w.setCells b 39 (aN a r)) b (aL { c with height:=a,root:=r } v) t:=by
 rw[AY]at h;have e:=qT b t [] (aN a r) ([.int .i64 c.kind]++(bC c.target++[Value.string c.group,.int .i64 c.version,.bool c.moderated,v,.string c.text,.int .i64 c.number])) (aN c.height c.root) w (by rw[bG,bG]) h;rw[show([Value.int .i64 c.kind]++(bC c.target++[Value.string c.group,.int .i64 c.version,.bool c.moderated,v,.string c.text,.int .i64 c.number])).length=39 by simp[a_]]at e;rw[AY { c with height:=a,root:=r } v];exact e
def mT.sets{w W:aB}{b:Nat}{s:aJ}{p:PS}{c a:Cm}{v d:Value}(h:mT w W b s p c v)(f:b<w.heap.size)(o:Nat)(l:bF)(e:HB (W.setCells (w.heap.size+1) o l) (w.heap.size+1) (aL a d) 87):mT w (W.setCells (w.heap.size+1) o l) b s p a d:=
 ⟨h.ps.other (cD (by omega) l o W),ko (by omega) l o W h.gr,(cD (by omega) l o W).trans h.b0,e⟩
def vT(n:Nat)(p:PS):PS×Cm:=
 let b:=p.numP n 1 1000
 let a:=b.1.pubP n
 (a.1,{ aV 5 with number:=b.2,height:=a.2.1,root:=a.2.2 })
def acF(b:Nat)(s:aJ)(p:PS)(w:aB)(h:ec w b s p)(m:dH (bl s) p)(Z:s.size<=1000000)(P:ff w)(Y:iD w)(I:4 <b):
  Calls prog 261 #[bZ b] w (tZ b s (vT s.size p).1 w (vT s.size p).2):=by
 have J:=h.facts.2.2.2.2.2.2;have G:=aA (mT.start h 5);have L:=aA (Fi b s p 1 1000 _ G.ps m Z (P.grown G.gr I) I);have HE:=aA P;have a:=aA (m.num s.size 1 1000);have HA:=aA Y;have N:Hid (vT s.size p=(((p.numP s.size 1 1000).1.pubP s.size).1,{ aV 5 with number:=(p.numP s.size 1 1000).2,height:=((p.numP s.size 1 1000).1.pubP s.size).2.1,root:=((p.numP s.size 1 1000).1.pubP s.size).2.2 })):=rfl;generalize p.numP s.size 1 1000=q at*
 obtain⟨p1,n⟩:=q;simp only at L N a;go_in;go_wp2_with fail;refine L.mono ?_;rintro e w1 ⟨rfl,W,D⟩;have z:=aA (G.call J W D);obtain⟨O,c,d,f,g,j,k,l,U,S,F,o,t,r,T,R,z1⟩:=iX z.out.b1;have V:=ee z.b1 38;go_wp2_with fail;have B:=aA (z.set J 38 (.int .i64 n) (VT z.b1 n));generalize w1.setCell (aD (w.heap.size+1) 38) (.int .i64 n)=W2 at*
 have M:=aA (adX b s p1 W2 B.ps a Z (HE.grown B.gr I) (HA.grown B.gr (by omega)) I);generalize p1.pubP s.size=q at*
 obtain⟨p2,u,y⟩:=q;simp only at M N;refine M.mono ?_;rintro e w3 ⟨rfl,X,E⟩;have H:=aA (B.call J X E);obtain⟨O,c,d,f,g,j,k,l,U,S,F,o,t,r,T,R,z1⟩:=iX H.out.b1;have V:=bE H.b1 39 17;have C:=H.sets J 39 (aN u y) (SP H.b1 u y);obtain⟨-,-,-,-,-,-,-,-,-,-,-,-,-,-,a2,a1,a3⟩:=iX C.b1;have f0:=bE C.b0 0 56;have u0:=aP C.b0 0 56 (by rw[cA];decide);have K:=aA C;go_wp2_with fail;have hw:=bO (cs:=aL { aV 5 with number:=n,height:=u,root:=y } bB) K.b0 (by rw[cA,cA]);have h5:=K.ps.other (cD (b:=w.heap.size) (i:=b) (by omega) (aL { aV 5 with number:=n,height:=u,root:=y } bB) 0 _);have Q:=ko (b:=w.heap.size) (aU _) (aL { aV 5 with number:=n,height:=u,root:=y } bB) 0 _ K.gr;refine bI (v:=aE (aL { aV 5 with number:=n,height:=u,root:=y } bB)) (dY rfl _ _ w.heap.size _ _ _ _ rfl hw underlying87 rfl (by rw[bQ,cA];kernel_rfl)) rfl ?_;rw[N.out];exact⟨none,0,0,rfl,jU _,(fun x hx=>by cases hx),h5,Q⟩
end
def Uz(s:aJ)(w:aB)(g:1000<s.size):Calls prog 191 #[.string s] w (jX (aV 0,0,5) w):=by
 have b:=(Gr.refl w).alloc (aC (aL (aV 0) bB) 87);have a:=cM w (aC (aL (aV 0) bB) 87);have d:=aA a;have c:=aA b;have h:=aP a 0 56 (by rw[cA];decide);have e:=bE a 0 56;have f:decide (1000<(s.size:Int))=true:=by simp;omega
 go_in;go_wp2_with fail;refine bI (gn (p:=2) (u1:=3) (u2:=4) rfl _ _ w.heap.size _ _ _ _ rfl d underlying87 rfl (by rw[bQ,cA];kernel_rfl)) rfl ?_;exact⟨bB,rfl,jU _,c⟩
def So(s:aJ)(w:aB)(f:aT)(N:List aT)(j:dS 32 (bl s)=f::N)(C:∀k,gM k≠bs f)(S:s.size<=1000)(G:ff w):
  Calls prog 191 #[.string s] w (jX (aV 0,0,11) w):=by
 have a:(Lib.cut (bl s) [32]).1=f:=by rw[L6,j];rfl
 obtain⟨K,r⟩:=G;have o:=(Gr.refl w).alloc (aC (aL (aV 0) bB) 87);have i:=(o.cell (p:=⟨4,0,none⟩) (ka w _ r)).trans r;have d:=aA (Tryz.strings_Cut s ⟨#[32]⟩ K _ (by omega) i);have x:s.data.toList=bl s:=rfl;have B:(⟨#[32]⟩:aJ).data.toList=[32]:=rfl;rw[x,B,a]at d;have u:=aA (cM w (aC (aL (aV 0) bB) 87));have D:=aA o;have v:=aA C;have Q:decide (1000<(s.size:Int))=false:=by simp;omega
 generalize(Lib.cut (bl s) [32]).2.1=y at*
 generalize(Lib.cut (bl s) [32]).2.2=z at*
 go_in;go_wp2_with fail;refine d.mono ?_;rintro e V ⟨rfl,M,rfl⟩;have t:(⟨f.toArray⟩:aJ)=bs f:=rfl;rw[t];go_wp2_with fail;refine(Hv _).mono ?_;rintro e m ⟨L,T,H,g,rfl,c,h⟩;have l:∀W,(zeroValue 322).run prog W=.ok .nilFunc W:=fun W=>by kernel_rfl
 have R:=aaZ (P:=prog) underlying324 underlying9 c (bs f) .nilFunc (l m) (fun e I=>by
  obtain⟨k,_,rfl⟩:=iQ.1 I;exact v k)
 have q:=((Gr.refl (w.alloc (aC (aL (aV 0) bB) 87))).drewN M).trans h;have n:=(q.block (b:=w.heap.size) (by simp)).trans u;have E:=aA (D.trans q);have U:=aP n 0 56 (by rw[cA];decide);have O:=bE n 0 56;have J:=aA (bO (w:=m) (b:=w.heap.size) (cs:=aL (aV 0) bB) n rfl);have F:Hid (Gr w (m.setCells w.heap.size 0 (aL (aV 0) bB))):=Gr.of_grownBy (ko (aU _) _ 0 m (dW E));go_wp2_with fail;refine bI (gn (p:=2) (u1:=3) (u2:=4) rfl _ _ w.heap.size _ _ _ _ rfl J underlying87 rfl (by rw[bQ,cA];kernel_rfl)) rfl ?_;exact⟨bB,rfl,jU _,F⟩
def As(k:Fin 5)(n:Nat)(s:aT)(p:PS):PS×Cm:=match k with
 |0=>vi n p
 |1=>vU n p
 |2=>wv n s p
 |3=>wl n p
 |4=>vT n p
def ad2(k:Fin 5)(b:Nat)(s:aJ)(p:PS)(w:aB)(h:ec w b s p)(a:dH (bl s) p)(e:s.size<=1000000)(c:ff w)(f:iD w)(d:4 <b):
  Calls prog (pE k) #[bZ b] w (tZ b s (As k s.size (bl s) p).1 w (As k s.size (bl s) p).2):=by
 have:k=0\/k=1\/k=2\/k=3\/k=4:=by omega
 rcases this with rfl|rfl|rfl|rfl|rfl
 .exact Xl b s p w h a e c d
 .exact Yx b s p w h a e c d
 .exact abz b s p w h a e c d
 .exact Pv b s p w h a e c d
 .exact acF b s p w h a e c f d
def Qr{s:aT}{p:PS}(h:dH s p)(n:Nat)(d:s.length<=1000):(p.modeP n).2.2.length<=1000000:=by
 have c:∀w:aT,w.length<=1000->(oc w).length<=1000000:=fun w f=>by
  have e:=sO (bs w);rw[oQ]at e;have l:=Es (bs w);have a:=bN (bs w);rw[oQ]at a;unfold oc;rw[cL,<-e,cL];omega
 unfold PS.modeP;split
 .exact bW _
 .split
  .exact bW _
  .unfold PS.autsP
   split
   .rename_i b
    have:=EJ (h.next n) n b;exact c _ (by omega)
   .exact bW _
def acj(k:Fin 5){s:aT}{p:PS}(h:dH s p)(n:Nat)(a:s.length<=1000):(As k n s p).2.mods.length<=1000000:=by
 have:k=0\/k=1\/k=2\/k=3\/k=4:=by omega
 rcases this with rfl|rfl|rfl|rfl|rfl
 .exact bW _
 .exact bW _
 .exact Qr ((h.group n).num n 0 1000000) n a
 .exact bW _
 .exact bW _
def nA(w:aT):Option (Fin 5):=(List.finRange 5).find? fun k=>decide (bl (gM k)=w)
def oj(s:aT):Cm×Nat×Int:=
 if 1000<s.length then(aV 0,0,5)else match nA ((dS 32 s).headD [])with
 |some k=>jq s.length (As k s.length s ⟨0,((dS 32 s).headD []).length,(dS 32 s).tail,0,0⟩)
 |none=>(aV 0,0,11)
def ab8(s:aJ)(w:aB)(i:ff w)(q:iD w)(r:4 <w.heap.size):Calls prog 191 #[.string s] w (jX (oj (bl s)) w):=by
 have m:=bN s;unfold oj;by_cases n:1000<s.size
 .rw[aG (by rw[m];exact n)];exact Uz s w n
 .rw[aF (by rw[m];exact n),m]
  obtain⟨d,g,c⟩:∃d g,dS 32 (bl s)=d::g:=by
   cases h:dS 32 (bl s)with
   |nil=>exact absurd h (uK 32 (bl s))
   |cons a l=>exact⟨a,l,rfl⟩
  rw[c];simp only[Gf,Kc]
  cases hk:nA d with
  |none=>
   refine So s w d g c (fun k e=>?_) (by omega) i;have:=List.find?_eq_none.1 hk k (List.mem_finRange k);exact this (by rw[e,oQ];simp)
  |some k=>
   have p:=Dy hk;have j:bs d=gM k:=by rw[<-oG p];rfl
   have f:=dH.start c;exact aaN s w k d g _ c j (by omega) i r (acj k f s.size (by omega)) (fun U b o t u=>ad2 k b s _ U u f (by omega) (i.gr o) (q.gr o) (by omega))
end Go.Proofs.YtjfaogajmoffoaaGreatDoor
