/- Lemmas for VerifyStatus. -/
import Derived.Test.YtjfaogajmoffoaaGreatDoorQPA15
import Derived.Test.YtjfaogajmoffoaaGreatDoorQBJ
set_option maxRecDepth 100000
set_option maxHeartbeats 16000000
set_option linter.all false
namespace Go.Proofs.YtjfaogajmoffoaaGreatDoor
open Go.RowKit Tryz
def MW(l:List Id)(v:Value)(w:aB)(hv:nX w v l)(hl:l.length<=1000):Calls prog 75 #[v] w (RG w (.int .i64 (gq l))):=by
 obtain⟨a,cap,rfl,hc,hj⟩:=id hv;rw[cL]at hc|-
 have HV:=aA hv;have HR:Hid (gq l=if 20<l.length then 9 else l6 [] l):=rfl;clear hj hv;by_cases h20:20<l.length
 .have hd':(20:Int)<(l.length:Int):=by omega
  have he:gq l=9:=by rw[HR.out,aG h20]
  rw[he];go_in;go_wp2_with fail;go_ret;exact⟨rfl,Gr.refl w⟩
 .have hd':¬(20:Int)<(l.length:Int):=by omega
  have he:gq l=l6 [] l:=by rw[HR.out,aF h20]
  rw[he];have HF:=aA (JG l);have HE:Hid (l6 [] l=l6 (l.take 0) (l.drop 0)):=rfl;generalize l6 [] l=r at*
  clear he HR;go_in;go_wp2_with fail
  go_loopw [3] (fun j wr=>∃k:Nat,k<=l.length/\j=.int .i64 k/\Hid (Gr w wr)/\Hid (r=l6 (l.take k) (l.drop k))) (fun j _=>l.length-(intOf j).toNat)
  .exact⟨0,bW _,rfl,Gr.refl w,HE⟩
  .
   obtain⟨k,hk,rfl,hG,hr⟩:=hrel;by_cases hlt:k<l.length
   .have q1:(k:Int)<(l.length:Int):=by omega
    have q2:(0:Int)<=(k:Int):=by omega
    have q3:(k:Int)<=(cap:Int):=by omega
    have hFk:=HF k hlt;rw[<-hr.out]at hFk;have HF0:Hid (∃b0 o0,a=some ⟨b0,o0,none⟩/\∀V,Gr wr V->hasRow V ⟨b0,o0+k*32,none⟩ 32=true/\rowAt V ⟨b0,o0+k*32,none⟩ 32=bC l[k]/\b0<V.heap.size):=by
     obtain⟨a1,cap1,e1,-,hj⟩:=bX.gr HV.out hG.out;obtain⟨b0,o0,ha,hb,u1,u2⟩:=hj k (by rw[cL];exact hlt);obtain⟨rfl,-,rfl⟩:a=a1/\l.length=(l.map bC).length/\cap=cap1:=by simpa using e1
     rw[ig]at u2;exact⟨b0,o0,ha,fun V hV=>⟨(hV.hasRow hb).trans u1,(hV.rowAt hb).trans u2,dQ hb hV.size⟩⟩
    have HHA:Hid (∀V,Gr w V->CG 129 #[.slice a k cap,.agg (bC l[k]).toArray] V (.bool (hasI (l.take k) l[k]))):=fun V hV=>by
     have h1:=bX.take (bX.gr HV hV) k (by rw[cL];omega);rw[<-List.map_take]at h1;exact ZZ (l.take k) l[k] _ V h1 (by rw[dP];omega)
    have HNE:Hid (qj (l.take k) l[k]=if(l[k]==bM)=true then 1 else if hasI (l.take k) l[k]=true then 7 else 0):=rfl;obtain⟨b0,o0,rfl,hrow⟩:=HF0.out;obtain⟨p1,p2,p3⟩:=hrow wr (Gr.refl wr);have d1:=cC l[k];have d2:=gE l[k];have hk21:k<21:=by omega
    rw[HNE.out]at hFk;have HF2:=aA hFk;generalize hasI (l.take k) l[k]=hb at*
    generalize l[k]=y at*
    generalize hyz:(y==bM)=ez at*
    clear hFk HNE hr
    cases ez
    .have hk4:¬(o0+k*32=0/\False):=fun h=>h.2
     cases hb
     .have HF3:=aA (show r=l6 (l.take (k+1)) (l.drop (k+1)) by rw[HF2.out];simp)
      clear HF2 hk4;go_wp2_with fail;have HH2:Hid (∀q:GD,CG 129 #[.slice (some ⟨b0,o0,none⟩) k cap,.agg (bC y).toArray] (gw wr q) (.bool false)):=fun q=>HHA _ (hG.trans (cK wr q));refine ej (by kernel_rfl) (by kernel_rfl) ?_;repeat (go_big_quiet_step ((go_at_call 129;with_reducible exact eE (HH2.out _))))
      refine cX ?_;rintro _ ⟨q,rfl⟩;have G4:=aA (hG.trans (cK wr q));clear p1 p2 p3 hrow HH2;generalize gw wr q=V at*
      go_wp2_with fail;go_roundw
      .exact⟨k+1,by omega,by go_num,G4,HF3⟩
      .simp[intOf];omega
     .have hrr:r=7:=by rw[HF2.out];simp
      subst hrr;clear HF2 hk4;go_wp2_with fail;have HH2:Hid (∀q:GD,CG 129 #[.slice (some ⟨b0,o0,none⟩) k cap,.agg (bC y).toArray] (gw wr q) (.bool true)):=fun q=>HHA _ (hG.trans (cK wr q));refine ej (by kernel_rfl) (by kernel_rfl) ?_;repeat (go_big_quiet_step ((go_at_call 129;with_reducible exact eE (HH2.out _))))
      refine cX ?_;rintro _ ⟨q,rfl⟩;go_wp2_with fail;go_ret;exact⟨rfl,hG.trans (cK wr q)⟩
    .have hrr:r=1:=by rw[HF2.out];simp
     subst hrr;clear HF2 hrow;go_wp2_with fail;go_ret;exact⟨rfl,hG⟩
   .obtain rfl:k=l.length:=by omega
    have q1:¬(l.length:Int)<(l.length:Int):=by omega
    have hrr:r=0:=by rw[hr.out,tt];rfl
    subst hrr;go_wp2_with fail;go_ret;exact⟨rfl,hG⟩
def UZ(i:Id)(k:Nat)(h:k<32):bs (60::dF (i.toList.take k))++bs [fu (i[k].toNat/16)]++bs [fu (i[k].toNat%16)]=bs (60::dF (i.toList.take (k+1))):=by
 rw[xv i.toList k (by simpa using h),iY,iY];congr 1;simp
def Zf(i:Id):bs (60::dF i.toList)++(⟨#[64,104,97,115,104,62]⟩:aJ)=bs (ic i):=by
 rw[<-JA,show(⟨#[60]⟩:aJ)=bs [60]from rfl,iY];rfl
def aay(i:Id)(w:aB):Calls prog 139 #[aE (bC i)] w (RG w (.string (bs (ic i)))):=by
 have m:=aA (km ((Gr.refl w).alloc (aC (bC i) 226)) (cM w (aC (bC i) 226)));have a:=aA (Zf i);go_in;go_wp2_with fail
 go_loopw [4,5] (fun s j wr=>∃k:Nat,k<=32/\j=.int .i64 k/\s=.string (bs (60::dF (i.toList.take k)))/\Hid (Gr w wr)/\Hid (HB wr (w.heap.size) (bC i) 226)) (fun _ j _=>32-(intOf j).toNat)
 .exact⟨0,bW _,rfl,rfl,m.1,m.2⟩
 .
  obtain⟨k,I,rfl,rfl,p,o⟩:=hrel;by_cases b:k<32
  .have h:(k:Int)<32:=by omega
   have v:=nn k
   have G:=(bH o k).trans (tD i k b);have n:=aA (UZ i k b);have L:=i[k].toNat_lt;generalize i[k].toNat=x at*
   have l:(bs (60::dF (i.toList.take k))).size<=66:=by
    show(60::dF (i.toList.take k)).toArray.size<=66;rw[bQ,dN,qv,dP];omega
   generalize bs (60::dF (i.toList.take k))=s at*
   obtain⟨q,J,c,d⟩:∃q:Nat,(x:Int)/16=(q:Int)/\q<16/\x/16=q:=⟨x/16,by omega,by omega,rfl⟩;obtain⟨r,K,f,g⟩:∃r:Nat,(x:Int)%16=(r:Int)/\r<16/\x%16=r:=⟨x%16,by omega,by omega,rfl⟩;rw[d,g]at n;have z:=u_ q c;have B:=u_ r f;have U:(bs [fu q]).size=1:=rfl;have V:(bs [fu r]).size=1:=rfl;generalize bs [fu q]=t at*
   generalize bs [fu r]=H at*
   have y:¬9223372036854775807<s.size+1:=by omega
   have M:¬9223372036854775807<s.size+(1+1):=by omega
   have N:(s++t).size=s.size+1:=by rw[ni];omega
   have Q:IntKind.u8.wrap (q:Int)=(q:Int):=by rw[gg];omega
   have R:IntKind.u8.wrap ((q:Int)+1)=(q:Int)+1:=by rw[gg];omega
   have S:IntKind.u8.wrap (r:Int)=(r:Int):=by rw[gg];omega
   have T:IntKind.u8.wrap ((r:Int)+1)=(r:Int)+1:=by rw[gg];omega
   have O:((q:Int)+1).toNat=q+1:=by omega
   have P:((r:Int)+1).toNat=r+1:=by omega
   have C:(q:Int)+1<=16:=by omega
   have D:(r:Int)+1<=16:=by omega
   have E:(q:Int)<=(q:Int)+1:=by omega
   have F:(r:Int)<=(r:Int)+1:=by omega
   go_wp2_with fail
   go_quiet (fail)
   go_wp2_with fail;go_roundw
   .exact⟨k+1,by omega,by go_num,ei Value.string n,p.drewN _,o⟩
   .simp[intOf];omega
  .obtain rfl:k=32:=by omega
   have h:¬((32:Nat):Int)<32:=by omega
   have l:(bs (60::dF (i.toList.take 32))).size<=66:=by
    show(60::dF (i.toList.take 32)).toArray.size<=66;rw[bQ,dN,qv,dP];omega
   have u:=aA (show bs (60::dF (i.toList.take 32))=bs (60::dF i.toList) by rw[eq (by simp)])
   have y:¬9223372036854775807<(bs (60::dF (i.toList.take 32))).size+6:=by omega
   rw[<-u.out]at a;generalize bs (60::dF (i.toList.take 32))=s at*
   go_wp2_with fail;go_ret;exact⟨by rw[<-a.out];rfl,p⟩
def yF(c:UInt8):∀(l m:List aT),l≠[]->m≠[]->Lib.join (l++m) [c]=Lib.join l [c]++c::Lib.join m [c]
 |[],_,h,_=>absurd rfl h
 |[a],b::m,_,_=>by rw[yV,t_,nO,fl];rfl
 |[a],[],_,h=>absurd rfl h
 |a::b::l,m,_,h=>by
  have d:=yF c (b::l) m (by simp) h;rw[mB,mB,t_,<-mB,d,t_,fl,fl,fl]
def jb(l:List Id)(k:Nat):aM:=Lib.join ((l.take k).map ic) [32]
def ZS(l:List Id)(k:Nat):(jb l k).length<=72*k:=by
 induction k with
 |zero=>simp[jb,Lib.join_nil]
 |succ k c=>
  by_cases h:k<l.length
  .unfold jb at*
   rw[eF h,gD];by_cases b:k=0
   .subst b
    show(Lib.join ([]++[ic l[0]]) [32]).length<=_;rw[mZ,nO,wX];omega
   .have a:(l.take k).map ic≠[]:=by
     intro e;have:=ei List.length e;rw[cL,dP,iJ]at this;omega
    show(Lib.join (_++[ic l[k]]) [32]).length<=_;rw[yF 32 _ _ a (by simp),nO,bV,dN,wX];omega
  .unfold jb at*
   rw[eq (by omega)];rw[eq (by omega)]at c;omega
def NZ(l:List Id)(h:0<l.length):bs (jb l 0)++bs (ic l[0])=bs (jb l 1):=by
 unfold jb;rw[fy,nI,Lib.join_nil,iY,mZ,eF h,fy,mZ];show _=bs (Lib.join [ic l[0]] [32]);rw[nO]
def ZI(l:List Id)(k:Nat)(h:k<l.length)(b:k≠0):bs (jb l k)++(⟨#[32]⟩:aJ)++bs (ic l[k])=bs (jb l (k+1)):=by
 have a:(l.take k).map ic≠[]:=by
  intro e;have:=ei List.length e;rw[cL,dP,iJ]at this;omega
 unfold jb;rw[eF h,gD];show _=bs (Lib.join (_++[ic l[k]]) [32]);rw[yF 32 _ _ a (by simp),nO,show(⟨#[32]⟩:aJ)=bs [32]from rfl,iY,iY,fl];rfl
def XM(l:List Id)(h:gq l=0):ln l=bs (jb l l.length):=by
 unfold ln jb;rw[aG h,jS,BI];rfl
def Uq(l:List Id)(v:Value)(w:aB)(u:nX w v l)(Q:l.length<=1000):Calls prog 86 #[v] w (RG w (.tuple #[.string (ln l),.int .i64 (gq l)])):=by
 have c:=aA (MW l v w u Q);obtain⟨a,D,rfl,P,t⟩:=id u;rw[cL]at P c|-
 have M:=aA u;have C:=aA aay;by_cases b:gq l=0
 case neg=>
  have J:ln l=⟨#[]⟩:=by unfold ln;rw[aF b]
  rw[J];generalize gq l=I at*
  have E:(I==0)=false:=dI.2 b;have Y:(I != 0)=true:=by simp[b]
  replace b:=aA b;go_in;go_wp2_with fail;refine bA c fun V q=>?_;go_wp2_with fail;go_ret2;exact⟨rfl,q⟩
 case pos=>
  have i:=aA (XM l b);have L:=aA (ZS l);have K:=aA (NZ l);have B:=aA (ZI l);have z:=aA (show (⟨#[]⟩:aJ)=bs (jb l 0) by unfold jb;rw[fy];rfl)
  rw[b]at c|-
  rw[i.out];go_in;go_wp2_with fail;refine bA c fun V q=>?_;have H:=aA q;clear q;go_wp2_with fail
  go_loopw [5,6] (fun s j wr=>∃k:Nat,k<=l.length/\j=.int .i64 k/\s=.string (bs (jb l k))/\Hid (Gr w wr)) (fun _ j _=>l.length-(intOf j).toNat)
  .exact⟨0,bW _,rfl,by rw[<-z.out],H⟩
  .
   obtain⟨k,hk,rfl,rfl,r⟩:=hrel;by_cases g:k<l.length
   .have T:(k:Int)<(l.length:Int):=by omega
    have q2:=nn k
    obtain⟨N,m,E,-,t⟩:=bX.gr M.out r.out;obtain⟨X,o0,O,Z,u1,u2⟩:=t k (by rw[cL];exact g);obtain⟨rfl,-,rfl⟩:a=N/\l.length=(l.map bC).length/\D=m:=by simpa using E
    subst O;rw[ig]at u2;have F:=L k;have o:(bs (jb l k)).size=(jb l k).length:=by show(jb l k).toArray.size=_;rw[bQ]
    have p:Hid (if k=0 then bs (jb l k)++bs (ic l[k])=bs (jb l (k+1))else bs (jb l k)++(⟨#[32]⟩:aJ)++bs (ic l[k])=bs (jb l (k+1))):=by
     by_cases h:k=0
     .show if k=0 then _ else _
      rw[aG h];subst h;exact K g
     .show if k=0 then _ else _
      rw[aF h];exact B k g h
    have d:=C l[k];have R:(bs (ic l[k])).size=71:=by show(ic l[k]).toArray.size=_;rw[bQ,wX]
    have S:(bs (jb l k)).size<=72000:=by omega
    generalize bs (ic l[k])=mt at*
    generalize l[k]=y at*
    generalize f:bs (jb l (k+1))=j1 at*
    generalize bs (jb l k)=G at*
    replace f:=aA f;replace d:=aA d;have n1:¬9223372036854775807<G.size+1:=by omega
    have n2:¬9223372036854775807<G.size+71:=by omega
    have n3:¬9223372036854775807<G.size+1+71:=by omega
    by_cases b:k=0
    .rw[aG b]at p
     have U:¬(0:Int)<(k:Int):=by omega
     replace b:=aA b;go_wp2_with fail;refine bA (d _) fun W n=>?_;have x:=aA (r.trans n);clear u1 u2 n;go_wp2_with fail;go_roundw
     .exact⟨k+1,by omega,by go_num,by rw[f.out,<-p.out],x⟩
     .simp[intOf];omega
    .rw[aF b]at p
     have U:(0:Int)<(k:Int):=by omega
     replace b:=aA b;go_wp2_with fail;refine bA (d _) fun W n=>?_;have x:=aA (r.trans n);clear u1 u2 n;go_wp2_with fail;go_roundw
     .exact⟨k+1,by omega,by go_num,by rw[f.out,<-p.out],x⟩
     .simp[intOf];omega
   .obtain rfl:k=l.length:=by omega
    have T:¬(l.length:Int)<(l.length:Int):=by omega
    go_wp2_with fail;go_ret2;exact⟨rfl,r⟩
section
open Go.RowKit Go.Shelf
attribute [local go_sem] Oper.semAt_some
structure rA(l:aM)(k t:Nat):Prop where
 le:k<=t
 top:t<=l.length
 out:∀i,k<=i->i<t->l[i]? ≠some 10
 stop:t=l.length\/l[t]? =some 10
def DK(l:aM)(i:Nat):Lib.occAt l [10] i=decide (l[i]? =some 10):=by
 unfold Lib.occAt;have b:(l.drop i)[0]? =l[i]? :=by rw[kM];rfl
 rw[<-b];generalize l.drop i=m
 cases m with
 |nil=>rfl
 |cons x m=>
  by_cases h:x=10
  .subst h;simp[List.isPrefixOf]
  .have a:((10:UInt8)==x)=false:=dI.2 fun e=>h e.symm
   simp[List.isPrefixOf,h,a]
def rA.last{l:aM}{k:Nat}(h:rA l k l.length):Lib.cut (l.drop k) [10]=(l.drop k,[],false):=by
 have hi:Lib.index (l.drop k) [10]= -1:=Lib.index_none fun j b=>by
  rw[DK,kM];refine eL fun e=>?_;have a:k+j<l.length:=by
   rcases th (k+j) l.length with q|q
   .exact q
   .rw[kZ q]at e;cases e
  exact h.out (k+j) (by omega) a e
 unfold Lib.cut;rw[aF (by rw[hi];decide)]
def rA.more{l:aM}{k t:Nat}(h:rA l k t)(d:t<l.length):Lib.cut (l.drop k) [10]=((l.drop k).take (t-k),l.drop (t+1),true):=by
 have a:=h.le;have b:l[t]? =some 10:=h.stop.resolve_left (by omega)
 have hi:Lib.index (l.drop k) [10]=((t-k:Nat):Int):=Lib.index_first (by rw[eh];omega)
  (by rw[DK,kM];exact fm (by rw[show k+(t-k)=t by omega];exact b))
  (fun j c=>by
   rw[DK,kM];exact eL (h.out (k+j) (by omega) (by omega)))
 unfold Lib.cut;rw[aG (by rw[hi];omega),hi,nD];refine Prod.ext rfl (Prod.ext ?_ rfl);show l.drop _=_;congr 1;show k+(((t-k:Nat):Int).toNat+1)=_;omega
def GN(s:aJ)(k t:Nat):bl (s.extract k t)=((bl s).drop k).take (t-k):=by
 unfold bl;rw[xI,yA,yI]
def Ow(l:aM):pa l=((iy l).any (fun r=>(r != 9)&&hJ r)||!(iH l==0)):=by
 unfold pa;congr 1;have h:(jR 0 l).map (·.2)=iy l:=by
  unfold jR;rw[List.map_snd_zip];rw[Fh l 0];exact aU _
 rw[<-h,List.any_map];rfl
def N9(s:aJ)(b:Nat)(w:aB)(hb:b<=s.size)(hs:s.size<=1000000):Calls prog 132 #[.string s,.int .i64 (b:Int)] w fun e w'=>(∃t:Nat,rA (bl s) b t/\e=.returned (.int .i64 (t:Int)))/\w=w':=by
 have HLN:=Lib.hid (bN s)
 have HAT:Hid (∀k (h:k<s.size),(bl s)[k]? =some 10↔s[k].toNat=10):=fun k h=>by
  rw[DA s k h];constructor
  .intro e;rw[Option.some.inj e];rfl
  .intro e;congr 1;exact UInt8.toNat_inj.1 e
 go_in;go_wp2_with fail
 go_loopw [1] (fun j wr=>∃k:Nat,b<=k/\k<=s.size/\j=.int .i64 (k:Int)/\Hid (∀i,b<=i->i<k->(bl s)[i]? ≠some 10)/\wr=w) (fun j _=>s.size-(intOf j).toNat)
 .exact⟨b,Nat.le_refl _,hb,rfl,fun i hi hk=>absurd hi (by omega),rfl⟩
 .
  obtain⟨k,hbk,hk,rfl,hA,rfl⟩:=hrel;by_cases hlt:k<s.size
  .have q1:(k:Int)<(s.size:Int):=by omega
   have q2:(0:Int)<=(k:Int):=by omega
   have hak:=HAT k hlt;by_cases h10:s[k].toNat=10
   .have e1:((s[k].toNat:Int) != 10)=false:=by simp;omega
    have hE:Hid (rA (bl s) b k):=⟨hbk,by rw[HLN.out];exact hk,hA,.inr (hak.2 h10)⟩;clear hak;replace h10:=Lib.hid h10;go_wp2_with fail;go_ret;exact⟨⟨k,hE,rfl⟩,rfl⟩
   .have e1:((s[k].toNat:Int) != 10)=true:=by simp;omega
    have HN2:Hid (∀i,b<=i->i<k+1->(bl s)[i]? ≠some 10):=fun i h1 h2=>by
     by_cases e:i=k
     .subst e;exact fun q=>h10 (hak.1 q)
     .exact hA i h1 (by omega)
    clear hak;go_wp2_with fail;go_roundw
    .exact⟨k+1,by omega,by omega,by go_num,HN2,by trivial⟩
    .simp[intOf];omega
  .have q1:¬(k:Int)<(s.size:Int):=by omega
   have hE:Hid (rA (bl s) b k):=⟨hbk,by rw[HLN.out];exact hk,hA,.inl (by rw[HLN.out];omega)⟩;go_wp2_with fail;go_ret;exact⟨⟨k,hE,rfl⟩,rfl⟩
def abq(s:aJ)(w:aB)(hs:s.size<=1000000):Calls prog 133 #[.string s] w (FV (pa (bl s)) w):=by
 have HAL:=Lib.hid (NK s w hs);have HCT:=Lib.hid L4;have HPR:=Lib.hid (Ow (bl s));have HRO:Hid ((iy (bl s)).length=(nB (jY 0 (bl s))).length):=by
  show _=_;rw[Fh (bl s) 0];unfold nB;rw[List.length_map]
 have HOP:Hid (∀j (h:j<(nB (jY 0 (bl s))).length),0<=(nB (jY 0 (bl s)))[j]):=fun j h=>by
  obtain⟨n,_,e⟩:=List.mem_map.1 (show(nB (jY 0 (bl s)))[j]∈(jY 0 (bl s)).map Int.ofNat from List.getElem_mem h);rw[<-e];exact Int.natCast_nonneg _
 generalize pa (bl s)=pb at*
 have HRL:Hid ((iy (bl s)).length<=1000000):=by
  show _<=_;have h1:=MY (bl s);rw[bN]at h1;omega
 generalize iy (bl s)=rs at*
 generalize nB (jY 0 (bl s))=os at*
 generalize ls 0 (bl s)=at_ at*
 generalize iH (bl s)=ez at*
 go_in;go_wp2_with fail;refine HAL.mono ?_;rintro e w1 ⟨u,v,rfl,iu,iv,g1⟩;obtain⟨ua,uc,rfl,hj⟩:=iu.cells;obtain⟨va,vc,rfl,hv⟩:=iv.cells;have HJ:=Lib.hid hj;have HV:=Lib.hid hv;have G1:=Lib.hid g1;clear iu iv g1 hj hv HAL;go_wp2_with fail
 go_loopw [7] (fun j wr=>∃k:Nat,k<=rs.length/\j=.int .i64 (k:Int)/\Hid (∀i (h:i<rs.length),i<k->((rs[i] != 9)&&hJ rs[i])=false)/\wr=w1) (fun j _=>rs.length-(intOf j).toNat)
 .exact⟨0,Nat.zero_le _,rfl,fun i _ hi=>absurd hi (Nat.not_lt_zero _),rfl⟩
 .
  obtain⟨k,hk,rfl,hA,rfl⟩:=hrel;by_cases hlt:k<rs.length
  .have q1:(k:Int)<(rs.length:Int):=by omega
   have q2:(0:Int)<=(k:Int):=by omega
   obtain⟨g,rfl,hg,hc⟩:=HJ.out k hlt;have hko:k<os.length:=by rw[<-HRO.out];exact hlt
   obtain⟨g2,rfl,hg2,hc2⟩:=HV.out k hko;have hop:=HOP k hko;have q3:(k:Int)<(os.length:Int):=by omega
   have hk6:k<1000000:=Nat.lt_of_lt_of_le hlt HRL
   have HNX:Hid (((rs[k] != 9)&&hJ rs[k])=false->∀i (h:i<rs.length),i<k+1->((rs[i] != 9)&&hJ rs[i])=false):=fun h i hi hik=>by
    by_cases e:i=k
    .subst e;exact h
    .exact hA i hi (by omega)
   have HBD:Hid (((rs[k] != 9)&&hJ rs[k])=true->pb=true):=fun h=>by
    rw[HPR.out,Bool.or_eq_true];exact .inl (List.any_eq_true.2 ⟨rs[k],List.getElem_mem hlt,h⟩)
   have HCk:=HCT rs[k];generalize ho:os[k]=off at*
   generalize hcb:hJ rs[k]=cb at*
   generalize hn9:(rs[k] != 9)=n9 at*
   generalize rs[k]=z at*
   clear hcb ho;replace HCk:=Lib.hid HCk
   cases cb
   .have HN2:=Lib.hid (HNX (by simp))
    clear HNX HBD;go_wp2_with fail;refine(HCk _).mono ?_;rintro e w2 ⟨rfl,rfl⟩;go_wp2_with fail;go_roundw
    .exact⟨k+1,by omega,by go_num,HN2,by trivial⟩
    .simp[intOf];omega
   .cases n9
    .have HN2:=Lib.hid (HNX rfl)
     clear HNX HBD;go_wp2_with fail;refine(HCk _).mono ?_;rintro e w2 ⟨rfl,rfl⟩;go_wp2_with fail;go_roundw
     .exact⟨k+1,by omega,by go_num,HN2,by trivial⟩
     .simp[intOf];omega
    .have hp:=HBD rfl
     subst hp;clear HNX HBD;go_wp2_with fail;refine(HCk _).mono ?_;rintro e w2 ⟨rfl,rfl⟩;go_wp2_with fail;go_ret;exact⟨⟨_,rfl,decide_eq_true hop⟩,G1⟩
  .have q1:¬(k:Int)<(rs.length:Int):=by omega
   have hp:pb= !(ez==0):=by
    rw[HPR.out]
    have:rs.any (fun r=>(r != 9)&&hJ r)=false:=by
     rw[List.any_eq_false];intro x hx;obtain⟨j,hj,rfl⟩:=List.getElem_of_mem hx;rw[hA.out j hj (by omega)];simp
    rw[this,Bool.false_or]
   clear HPR;by_cases he:ez=0
   .subst he
    replace hp:Hid (pb=false):=by show _=_;rw[hp];rfl
    go_wp2_with fail;go_ret;exact⟨⟨_,rfl,hp.symm⟩,G1⟩
   .have e2:(ez != 0)=true:=by simp[he]
    replace hp:Hid (pb=true):=by show _=_;rw[hp];simp[he]
    replace he:=Lib.hid he;go_wp2_with fail;go_ret;exact⟨⟨_,rfl,by rw[hp.out];exact decide_eq_true (by omega)⟩,G1⟩
end
section
open Go.RowKit Go.Shelf
attribute [local go_sem] Oper.semAt_some
def E_(t:aT):(bs t).size=t.length:=by show t.toArray.size=_;rw[bQ]
def Vs(s:aJ)(k f i:Nat)(j:s.size<=1000000)(g:k<s.size)(c:((bl s).drop k).length<=f)(h:rA (bl s) k s.size):iW s.size k (nC f i ((bl s).drop k))=4:=by
 have a:(bl s).length=s.size:=bN s
 have b:(bl s).drop k≠[]:=fun e=>by
  have:=ei List.length e;rw[eh,a]at this;simp at this;omega
 rw[CQ f i _ b c];rw[<-a]at h;rw[h.last];show(if jg s.size k (bs ((bl s).drop k))=0 then _ else jg s.size k (bs ((bl s).drop k)))=4;have d:(bs ((bl s).drop k)).size=s.size-k:=by rw[E_,eh,a]
 have:jg s.size k (bs ((bl s).drop k))=4:=by
  unfold jg;rw[aG (by rw[d,cV];omega)]
 rw[this];rfl
def VD(s:aJ)(k f i t:Nat)(v:s.size<=1000000)(u:k<s.size)(o:((bl s).drop k).length<=f)(h:rA (bl s) k t)(r:t<s.size):
  iW s.size k (nC f i ((bl s).drop k))=if 998<t-k then 5 else if pa (bl (s.extract k t))=true then 6 else iW s.size ((t+1:Nat):Int) (nC (f-1) (i+1) ((bl s).drop (t+1))):=by
 have c:(bl s).length=s.size:=bN s;have p:=h.le
 have d:(bl s).drop k≠[]:=fun e=>by
  have:=ei List.length e;rw[eh,c]at this;simp at this;omega
 rw[CQ f i _ d o,h.more (by rw[c];exact r)];dsimp only;rw[GN];generalize m:((bl s).drop k).take (t-k)=X;have j:(bs X).size=t-k:=by rw[E_,<-m,dP,eh,c];omega
 have n:bl (bs X)=X:=rfl;have g:IntKind.i64.wrap ((k:Int)+((bs X).size:Int))=(t:Int):=by rw[j,cV];omega
 show(if jg s.size k (bs X)=0 then iW s.size (qd k (bs X)) _ else jg s.size k (bs X))=_;have q:qd k (bs X)=((t+1:Nat):Int):=by unfold qd;rw[g,cV];omega
 rw[q];have l:jg s.size k (bs X)=if 998<t-k then 5 else if pa X=true then 6 else 0:=by
  unfold jg;rw[g,j,n,aF (by omega)]
 rw[l];by_cases a:998<t-k
 .rw[aG a,aG a];rfl
 .rw[aF a,aF a]
  by_cases b:pa X=true
  .rw[aG b,aG b];rfl
  .rw[aF b,aF b];rfl
def aa6(s:aJ)(w:aB)(D:s.size<=1000000):Calls prog 79 #[.string s] w (BV (o3 s) w):=by
 have r:=aA (N9 s);have q:=aA abq;have F:=aA (Vs s);have G:=aA (VD s);have m:=aA (bN s);have Q:Hid (o3 s=iW s.size ((0:Nat):Int) (nC s.size 0 ((bl s).drop 0))):=rfl;generalize o3 s=z at*
 go_in;go_wp2_with fail
 go_loopw [4] (fun j wr=>∃k f i:Nat,k<=s.size/\j=.int .i64 (k:Int)/\((bl s).drop k).length<=f/\Hid (z=iW s.size (k:Int) (nC f i ((bl s).drop k)))/\Gr w wr) (fun j _=>s.size-(intOf j).toNat)
 .exact⟨0,s.size,0,bW _,rfl,by rw[gd,bN];exact aU _,Q,Gr.refl w⟩
 .
  obtain⟨k,f,i,S,rfl,g,l,n⟩:=hrel;replace g:=aA g;by_cases y:k<s.size
  .have Y:(k:Int)<(s.size:Int):=by omega
   have q2:=nn k
   have E:=aA (fun W=>r k W S D);have b:=aA (F k f i D y g);have c:=aA (fun t=>G k f i t D y g);go_wp2_with fail;refine(E _).mono ?_;rintro e w2 ⟨⟨t,a,rfl⟩,rfl⟩;have T:=a.le;have B:=a.top;rw[m.out]at B;by_cases J:t=s.size
   .subst J
    have R:((s.size:Int)==(s.size:Int))=true:=by simp
    have M:z=4:=by rw[l.out];exact b a
    subst M;go_wp2_with fail;go_ret2;exact⟨⟨_,rfl⟩,n⟩
   .have R:((t:Int)==(s.size:Int))=false:=by simp;omega
    have d:=c t a (by omega);rw[<-l.out]at d;have w1:IntKind.i64.wrap ((t:Int)-(k:Int))=((t-k:Nat):Int):=by rw[cV];omega
    have p:=aA (fun W=>q (s.extract k t) W (by rw[<-bN,GN,dP];have:=D;omega));have U:t<s.size:=by omega
    by_cases h:998<t-k
    .have N:z=5:=by rw[d,aG h]
     subst N;have V:(998:Int)<((t-k:Nat):Int):=by omega
     go_wp2_with fail;go_ret2;exact⟨⟨_,rfl⟩,n⟩
    .rw[aF h]at d
     have V:¬(998:Int)<((t-k:Nat):Int):=by omega
     have Z:(k:Int)<=(t:Int):=by omega
     have i3:(t:Int)<=(s.size:Int):=by omega
     generalize C:s.extract k t=X at*
     replace C:=aA C;generalize pa (bl X)=lb at*
     cases lb
     .have K:=aA (show z=iW s.size ((t+1:Nat):Int) (nC (f-1) (i+1) ((bl s).drop (t+1))) by rw[d,aF (aH rfl)])
      have v:Hid (((bl s).drop (t+1)).length<=f-1):=by
       show _<=_;have:=g.out;rw[eh,m.out]at this|-;omega
      go_wp2_with fail;rw[C.out];refine(p _).mono ?_;rintro e P ⟨⟨j,rfl,x⟩,u⟩;have H:¬0<=j:=tm x;have o:Gr w P:=n.trans u;go_wp2_with fail;go_roundw
      .exact⟨t+1,f-1,i+1,by omega,by go_num,v,K,o⟩
      .simp[intOf];omega
     .have O:z=6:=by rw[d,aG rfl]
      subst O;go_wp2_with fail;rw[C.out];refine(p _).mono ?_;rintro e P ⟨⟨j,rfl,x⟩,u⟩;have H:0<=j:=oG x;have o:Gr w P:=n.trans u;go_wp2_with fail;go_ret2;exact⟨⟨_,rfl⟩,o⟩
  .have I:k=s.size:=by omega
   subst I;have L:z=0:=by
    rw[l.out,jn (by rw[m.out];exact aU _),LO];rfl
   subst L;have Y:¬(s.size:Int)<(s.size:Int):=by omega
   go_wp2_with fail;go_ret2;exact⟨⟨_,rfl⟩,n⟩
end
@[go_sem] def ags:dZ prog 28 =true:=by kernel_rfl
@[go_sem] def JZ:prog.cellsOf 28 =75:=by kernel_rfl
def sF{W:aB}{b:Nat}{c:bU}(h:HB W b (aX c) 28):nS W b c:=
 ⟨(bH h 0).trans (I3 _),aP h 1 16 (by rw[dO];decide),(bJ h 1 16 (by rw[dO];decide)).trans (wU _),(bH h 17).trans (Em _),(bH h 18).trans (DG _),(bH h 19).trans (Km _),(bH h 20).trans (DN _),aP h 21 32 (by rw[dO];decide),(bJ h 21 32 (by rw[dO];decide)).trans (Ha _),(bH h 53).trans (xu _),(bH h 54).trans (Mm _),(bH h 55).trans (z' _),aP h 56 17 (by rw[dO];decide),(bJ h 56 17 (by rw[dO];decide)).trans (CY _),(bH h 73).trans (Ce _),(bH h 74).trans (GF _),aP h 0 75 (by rw[dO];decide),(bJ h 0 75 (by rw[dO];decide)).trans (FD _),aI h⟩
def Mz(s:aJ)(w:aB):Calls prog 16 #[.string s] w (jX (oj (bl s)) w):=by
 rw[<-Xs];by_cases a:s.size<=1100
 .exact Yf s w a
 have f:=bN s;have b:=aA (cM w (aC (aL (aV 0) bB) 66));have c:=aA ((Gr.refl w).alloc (aC (aL (aV 0) bB) 66))
 have d:Hid (∀W,Gr w W->jX (iM (bl s)) w (.returned (.tuple #[aE (aL (aV 0) bB),.int .i64 0,.int .i64 5])) W):=fun W e=>by
  unfold iM;rw[aG (by omega)];exact⟨bB,rfl,jU _,e⟩
 have g:1000<(s.size:Int):=by omega
 go_in;go_wp2_with fail;refine bI (gn (p:=2) (u1:=3) (u2:=4) rfl _ _ w.heap.size _ _ _ _ rfl b underlying66 rfl (by rw[bQ,cA];kernel_rfl)) rfl ?_;exact d _ c
def Yd(c:bU)(W:aB)(h1:cN (aX c)=true)(hs:c.control.size<=1000000):
  Calls prog 77 #[aE (aX c)] W (RG W (.int .i64 (lC 0 c))):=by
 obtain⟨n,hn⟩:∃n,W.heap.size=n:=⟨_,rfl⟩;obtain⟨U0,hU⟩:∃U0,W.alloc (aC (aX c) 28)=U0:=⟨_,rfl⟩;have HG:Hid (Gr W U0):=by show Gr _ _;rw[<-hU];exact(Gr.refl W).alloc _
 have H0:=aA (show HB U0 n (aX c) 28 by rw[<-hU];exact aY _ _ _ hn.symm)
 have HF:Hid (∀V,Gr U0 V->nS V n c):=fun V hV=>sF ((hV.block (aI H0)).trans H0);have HV:Hid (lC 0 c=if c.control.size=0 then 0 else cQ (cQ (cQ 0 (!gJ c.control) 3) true (qV c.control)) (!(c.sup==bM)) 11):=rfl;have f:=HF U0 (Gr.refl _);have q0:=f.control;have q1:=f.z;clear f;by_cases h0:c.control.size=0
 .have hv:lC 0 c=0:=by rw[HV.out,if_pos h0]
  have hce:c.control=⟨#[]⟩:=by
   have h2:=Array.eq_empty_of_size_eq_zero (show c.control.data.size=0 from h0)
   cases hc:c.control with|mk d=>rw[hc]at h2;exact congrArg ByteArray.mk h2
  rw[hce]at q0;rw[hv];go_in;go_wp2_with fail;go_ret;exact⟨rfl,HG⟩
 .have hv:lC 0 c=cQ (cQ (cQ 0 (!gJ c.control) 3) true (qV c.control)) (!(c.sup==bM)) 11:=by rw[HV.out,if_neg h0]
  have hte:c.control.toList.isEmpty=false:=by rw[hI,List.isEmpty_eq_false_iff];intro h;exact h0 (by rw[<-bN,h];rfl)
  have HSQ:Hid (∀V,Calls prog 127 #[.string c.control] V fun e w'=>e=.returned (.bool (gJ c.control))/\V=w'):=fun V=>Ja c.control V hs;have HPR:Hid (∀V,Calls prog 16 #[.string c.control] V (jX (oj (bl c.control)) V)):=fun V=>Mz c.control V;have HPE:Hid (qV c.control=(oj (bl c.control)).2.2):=rfl;have b1:=cC c.sup;have b2:=gE c.sup;have heq:=Jy c.sup bM;generalize qV c.control=pe at*
  generalize gJ c.control=sq at*
  generalize hzb:(c.sup==bM)=zb at*
  unfold jX at HPR;generalize oj (bl c.control)=P at*
  obtain⟨d,k,er⟩:=P;simp only at HPR HPE;have hpe:pe=er:=HPE;subst hpe;rw[hv];go_in;go_wp2_with fail;refine dK (HSQ _) ?_
  cases sq
  .go_wp2_with fail
   go_ret;exact⟨rfl,HG⟩
  go_wp2_with fail;refine(HPR _).mono ?_;rintro e3 w3 ⟨v,rfl,hv,g3⟩;obtain⟨va,vc,hvs⟩:∃va vc,v=.slice va (d.mods.map bC).length vc:=by obtain⟨a,c,h,_⟩:=hv;exact⟨a,c,h⟩
  subst hvs;generalize(d.mods.map bC).length=vm at*
  have G3:=Lib.hid g3;by_cases hp:pe=0
  .subst hp
   have G4:Hid (Gr U0 (w3.alloc (aC (aL d (.slice va vm vc)) 66))):=G3.alloc _;have f:=HF _ G4;have q0:=f.su0;have q1:=f.su1;have q2:=f.z
   cases zb
   all_goals
    go_wp2_with fail;go_ret;exact⟨rfl,HG.trans G4⟩
  .have e1:(pe==0)=false:=beq_eq_false_iff_ne.2 hp
   have e2:(pe != 0)=true:=by simp[hp]
   have hw:cQ (cQ (cQ 0 (!true) 3) true pe) (!zb) 11=pe:=by
    unfold cQ;simp[hp]
   replace hw:=Lib.hid hw;replace hp:=Lib.hid hp;have G4:Hid (Gr U0 (w3.alloc (aC (aL d (.slice va vm vc)) 66))):=G3.alloc _;go_wp2_with fail;go_ret;exact⟨by rw[hw.out];rfl,HG.trans G4⟩
end Go.Proofs.YtjfaogajmoffoaaGreatDoor
