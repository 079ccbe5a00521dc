/- Lemmas for VerifyStatus. -/
import Derived.Test.YtjfaogajmoffoaaGreatDoorQBQ
set_option maxRecDepth 100000
set_option maxHeartbeats 16000000
set_option linter.all false
namespace Go.Proofs.YtjfaogajmoffoaaGreatDoor
open Go.RowKit Tryz
def Om(c:Int)(w:aB):Calls prog 192 #[.int .u8 c] w fun e w'=>e=.returned (.bool (decide (97<=c)&&decide (c<=122)))/\w=w':=by
 by_cases h:97<=c
 .have a:decide (97<=c)=true:=fm h
  go_in;go_wp2_with fail;go_ret;exact⟨by simp[h],rfl⟩
 .have a:decide (97<=c)=false:=eL h
  go_in;go_wp2_with fail;go_ret;exact⟨by simp,rfl⟩
def aaF(c:Int)(w:aB):Calls prog 193 #[.int .u8 c] w fun e w'=>e=.returned (.bool (decide (48<=c)&&decide (c<=57)))/\w=w':=by
 by_cases h:48<=c
 .have a:decide (48<=c)=true:=fm h
  go_in;go_wp2_with fail;go_ret;exact⟨by simp[h],rfl⟩
 .have a:decide (48<=c)=false:=eL h
  go_in;go_wp2_with fail;go_ret;exact⟨by simp,rfl⟩
def jh(c:UInt8):Bool:=!(decide (97<=(c.toNat:Int))&&decide ((c.toNat:Int)<=122))&&!(decide (48<=(c.toNat:Int))&&decide ((c.toNat:Int)<=57))&&((c.toNat:Int) != 45)
def oZ(e:Int)(s:aJ):Int:=cQ (cQ e (decide (20<s.size)) 5) ((bl s).any jh) 6
def ab2(e:Int)(a b:Bool)(x:Int)(d:x≠0):cQ (cQ e a x) b x=cQ e (a||b) x:=by
 unfold cQ;by_cases c:e=0<;>cases a<;>cases b<;>simp_all
def OV(s:aJ)(k:Nat)(a:k<s.size):((bl s).take (k+1)).any jh=(((bl s).take k).any jh||jh s[k]):=by
 rw[eF (by rw[bN];exact a),wy];simp only[List.any_cons,List.any_nil,Bool.or_false];rfl
def aaX(c:Nat)(e:Int)(s:aJ)(W:aB)(h:oH W c e)(J:s.size<=1000000):Calls prog 159 #[bZ c,.string s] W (tH c (oZ e s) W):=by
 have u:=aA (rB c e (decide (20<(s.size:Int))) 5 W h);have w:Hid (cQ e (decide (20<(s.size:Int))) 5=cQ e (decide (20<s.size)) 5):=by
  show _=_;rw[show decide (20<(s.size:Int))=decide (20<s.size)from xS.2 (by omega)]
 have C:Hid (cQ (cQ e (decide (20<s.size)) 5) (((bl s).take s.size).any jh) 6=oZ e s):=by
  show _=_;unfold oZ;rw[eq (by rw[bN];exact aU _)]
 have B:Hid (∀g,cQ g (((bl s).take 0).any jh) 6=g):=fun g=>Il g 6;have E:=aA (OV s);rw[w.out]at u;generalize cQ e (decide (20<s.size)) 5=g at*
 clear h w;go_in;go_wp2_with fail;refine u.mono ?_;rintro L K ⟨rfl,F,G⟩;go_wp2_with fail
 go_loopw [12] (fun i wr=>∃k:Nat,k<=s.size/\i=.int .i64 k/\Hid (oH wr c (cQ g (((bl s).take k).any jh) 6))/\Hid (W.grownBy wr (some c))) (fun i _=>s.size-(intOf i).toNat)
 .exact⟨0,bW _,rfl,by show oH _ _ _;rw[B.out];exact F,G⟩
 .
  obtain⟨k,I,rfl,x,m⟩:=hrel;by_cases t:k<s.size
  .have q:(k:Int)<(s.size:Int):=by omega
   have H:=nn k
   have o:=aA (E k t);have p:Hid (Calls prog 155 #[bZ c,.bool (jh s[k]),.int .i64 6] wr (tH c (cQ g (((bl s).take (k+1)).any jh) 6) wr)):=by
    have:=rB c _ (jh s[k]) 6 wr x;rw[ab2 _ _ _ _ (aH rfl),<-o.out]at this;exact this
   have n:=aA (fun W=>Om (s[k].toNat:Int) W);have v:=aA (fun W=>aaF (s[k].toNat:Int) W);have D:Hid (jh s[k]=(!(decide (97<=(s[k].toNat:Int))&&decide ((s[k].toNat:Int)<=122))&&!(decide (48<=(s[k].toNat:Int))&&decide ((s[k].toNat:Int)<=57))&&((s[k].toNat:Int) != 45))):=rfl;generalize jh s[k]=d at*
   generalize(decide (97<=(s[k].toNat:Int))&&decide ((s[k].toNat:Int)<=122))=bL at*
   generalize(decide (48<=(s[k].toNat:Int))&&decide ((s[k].toNat:Int)<=57))=bD at*
   have b:=D.out
   cases bL with
   |true=>
    have a:d=false:=b;subst a;clear b;go_wp2_with (first
     |(go_at_call 192;refine dK (n _) ?_)
     |(go_at_call 155;refine p.mono ?_;rintro z y ⟨rfl,j,l⟩))
    go_roundw
    .exact⟨k+1,by omega,by go_num,j,dG m l⟩
    .simp[intOf];omega
   |false=>
    cases bD with
    |true=>
     have a:d=false:=b;subst a;clear b;go_wp2_with (first
      |(go_at_call 192;refine dK (n _) ?_)
      |(go_at_call 193;refine dK (v _) ?_)
      |(go_at_call 155;refine p.mono ?_;rintro z y ⟨rfl,j,l⟩))
     go_roundw
     .exact⟨k+1,by omega,by go_num,j,dG m l⟩
     .simp[intOf];omega
    |false=>
     have a:((s[k].toNat:Int) != 45)=d:=b.symm;clear b;go_wp2_with (first
      |(go_at_call 192;refine dK (n _) ?_)
      |(go_at_call 193;refine dK (v _) ?_)
      |(go_at_call 155;refine p.mono ?_;rintro z y ⟨rfl,j,l⟩))
     go_roundw
     .exact⟨k+1,by omega,by go_num,j,dG m l⟩
     .simp[intOf];omega
  .have q:¬(k:Int)<(s.size:Int):=by omega
   have r:k=s.size:=by omega
   subst r;go_wp2_with fail;refine pM (fn:=Tryz.f159) rfl rfl ?_;exact⟨rfl,by rw[<-C.out];exact x,m⟩
section
open Go.Maps (Keyed)
open Classical in
noncomputable def oR(v:Value):Option (DataW Value×List MemPlace):=if ∃b:Bool,v=.bool b then some (.held v,[])else none
def Iv(b:Bool):oR (.bool b)=some (.held (.bool b),[]):=aG ⟨b,rfl⟩
def acs{v:Value}{y:DataW Value×List MemPlace}(h:oR v=some y):y.1=.held v:=by
 unfold oR at h;split at h
 .rw[<-iP h]
 .cases h
def hasI(l:List Id)(x:Id):Bool:=l.any fun y=>y==x
structure mS(w:aB)(bm n:Nat)(D:DataW Value)(l:List Id):Prop where
 own:w.ownsMap prog 26 oR bm n D
 at_:∀x,D.atKey (kl x) (.held (.bool false))=.held (.bool (hasI l x))
def mS.gr{w w':aB}{a n:Nat}{D:DataW Value}{l:List Id}(h:mS w a n D l)(b:Gr w w'):mS w' a n D l:=⟨h.own.kept b.grownBy (by simp),h.at_⟩
def mS.made{w:aB}{c:Nat}(h:w.heap[c]? =some (.map #[] 0)):mS w c 0 (.map []) []:=by
 obtain⟨d,b,a,F,_,_⟩:=Cw w prog 26 oR;rw[cM w _]at a;injection a with a;injection a with h1 h2;subst h1;subst h2;exact⟨⟨#[],0,h,F,aU _,rfl⟩,fun x=>rfl⟩
def Y5(w:aB):(zeroValue 4).run prog w=.ok (.bool false) w:=by kernel_rfl
def mS.look{w:aB}{b n:Nat}{D:DataW Value}{l:List Id}(h:mS w b n D l)(x:Id):(Instr.lookup 291 (.map (some b)) (aE (bC x)) false).run prog w=.ok (.bool (hasI l x)) w:=by
 obtain⟨v,f,a,e⟩:=h.own.lookup tW underlying291 (Y5 w) (Iv false) (tC x);have d:D.atKey (kl x) (.held (.bool false))=.held v:=acs e;have c:=h.at_ x;rw[d]at c;rw[sD c]at a;exact a
def mS.store{w:aB}{f n:Nat}{D:DataW Value}{l:List Id}(h:mS w f n D l)(j:n<=1000)(x:Id):
  ∃d,(Instr.mapUpdate 291 (.map (some f)) (aE (bC x)) (.bool true)).run prog w=.ok () d/\(∃g,mS d f (n+1) g (l++[x]))/\w.mapTurned d f:=by
 obtain⟨d,c,b,a⟩:=h.own.store tW underlying291 (by unfold maxLen;omega) (tC x) (Iv true);refine⟨d,c,⟨D.put (kl x) (.held (.bool true)),⟨b,fun y=>?_⟩⟩,a⟩;by_cases e:y=x
 .subst e
  rw[Maps.atKey_put_same h.own.isMap (JC y)];unfold hasI;simp
 .rw[Maps.atKey_put_other (fun q=>e (ID q)),h.at_ y]
  unfold hasI;rw[wy];have i:(x==y)=false:=dI.2 (fun q=>e q.symm);simp[i]
def Ux{w w':aB}{a:Nat}(h:w.mapTurned w' a):w.grownBy w' (some a):=h.grown
def qj(l:List Id)(x:Id):Int:=if(x==bM)=true then 1 else if hasI l x=true then 7 else 0
def Xw(x:Id)(d n:Nat)(D:DataW Value)(l:List Id)(w:aB)(h:mS w d n D l)(F:n<=1000):
  Calls prog 190 #[aE (bC x),.map (some d)] w fun e w'=>e=.returned (.int .i64 (qj l x))/\w.grownBy w' (some d)/\(qj l x=0->∃B,mS w' d (n+1) B (l++[x])):=by
 obtain⟨k,C⟩:=ex w.heap.size;obtain⟨H,I,f,c⟩:=gO C (aC (bC x) 26)
 have u:=aA (xi x);have y:=aA h;have m:=aP c 0 32 (by rw[cC];decide);have o:=(bJ c 0 32 (by rw[cC];decide)).trans (b_ _ _ (cC x));have p:=aI c;have s:Hid (qj l x=if(x==bM)=true then 1 else if hasI l x=true then 7 else 0):=rfl;generalize qj l x=v at*
 generalize(x==bM)=z at*
 cases z with
 |true=>
  have e:v=1:=s;subst e;go_in;go_wp2_with (go_at_call 167;refine bA (u _) fun q a=>?_);go_ret;exact⟨rfl,dW (row:=some d) (f.trans a),fun h=>by cases h⟩
 |false=>
  have j:=aA (fun W (hW:Gr w W)=>(y.gr hW).look x)
  cases hh:hasI l x with
  |true=>
   have e:v=7:=by rw[s.out,hh];rfl
   subst e;rw[hh]at j;go_in;go_wp2_with (go_at_call 167;refine bA (u _) fun q a=>?_;clear m o p;have b:=(a.block (aI c)).trans c;have m:=aP b 0 32 (by rw[cC];decide);have o:=(bJ b 0 32 (by rw[cC];decide)).trans (b_ _ _ (cC x));have p:=aI b;clear b;have E:=j q (f.trans a));go_ret;exact⟨rfl,dW (row:=some d) (f.trans a),fun h=>by cases h⟩
  |false=>
   have e:v=0:=by rw[s.out,hh];rfl
   subst e;rw[hh]at j;go_in;go_wp2_with (go_at_call 167;refine bA (u _) fun q a=>?_;clear m o p;have b:=(a.block (aI c)).trans c;have m:=aP b 0 32 (by rw[cC];decide);have o:=(bJ b 0 32 (by rw[cC];decide)).trans (b_ _ _ (cC x));have p:=aI b;clear b;have E:=j q (f.trans a);obtain⟨J,G,g,i⟩:=(y.out.gr (f.out.trans a)).store F x;have r:=aA g;have t:=aA i;clear g i);go_ret;exact⟨rfl,dG (dW (row:=some d) (f.trans a)) (Ux t),fun _=>r⟩
def nX(w:aB)(v:Value)(l:List Id):Prop:=bX w v 32 (l.map bC)
def l6:List Id->List Id->Int
 |_,[]=>0
 |acc,x::l=>if qj acc x=0 then l6 (acc++[x]) l else qj acc x
def gq(l:List Id):Int:=if 20<l.length then 9 else l6 [] l
def JG(l:List Id)(k:Nat)(h:k<l.length):l6 (l.take k) (l.drop k)=if qj (l.take k) l[k]=0 then l6 (l.take (k+1)) (l.drop (k+1))else qj (l.take k) l[k]:=by
 rw[kR h,eF h];rfl
def H'(l:List Id)(v:Value)(w:aB)(O:nX w v l):Calls prog 157 #[v] w (RG w (.int .i64 (gq l))):=by
 obtain⟨a,F,rfl,hc,u⟩:=id O;rw[cL]at hc|-
 have X:=aA O;have C:Hid (gq l=if 20<l.length then 9 else l6 [] l):=rfl;by_cases n:20<l.length
 .have hd:decide ((20:Int)<(l.length:Int))=true:=by simp;omega
  have H:(20:Int)<(l.length:Int):=by omega
  have t:gq l=9:=by rw[C.out,aG n]
  rw[t];go_in;go_wp2_with fail;go_ret;exact⟨rfl,Gr.refl w⟩
 .have H:¬(20:Int)<(l.length:Int):=by omega
  have t:gq l=l6 [] l:=by rw[C.out,aF n]
  rw[t];have V:=aA (JG l);have a4:∀w,(Instr.makeMap 291 none).run prog w=.ok (.map (some w.heap.size)) (w.alloc (.map #[] 0)):=fun w=>by simp[Instr.makeMap]
  obtain⟨j,p⟩:=ex w.heap.size;have W:Hid (mS (w.alloc (.map #[] 0)) j 0 (.map []) []):=mS.made (aY _ _ _ p.symm);have Q:=aA p;have U:Hid (l6 [] l=l6 (l.take 0) (l.drop 0)):=rfl;generalize l6 [] l=r at*
  go_in;go_wp2_with fail
  go_loopw [13] (fun i wr=>∃k:Nat,k<=l.length/\i=.int .i64 k/\Hid (Gr w wr)/\Hid (r=l6 (l.take k) (l.drop k))/\Hid (∃D,mS wr j k D (l.take k))) (fun i _=>l.length-(intOf i).toNat)
  .exact⟨0,bW _,rfl,(Gr.refl w).alloc _,U,_,W⟩
  .
   obtain⟨k,hk,rfl,s,L,T⟩:=hrel;by_cases g:k<l.length
   .have I:(k:Int)<(l.length:Int):=by omega
    have a3:=nn k
    obtain⟨Y,m,R,-,u⟩:=X.out.gr s.out;obtain⟨b,o,ha,a2,h1,Z⟩:=u k (by rw[cL];exact g);obtain⟨rfl,-,rfl⟩:a=Y/\l.length=(l.map bC).length/\F=m:=by simpa using R
    subst ha;rw[ig]at Z;obtain⟨D,S⟩:=T.out;have f:=V k g;rw[<-L.out]at f;have E:=aA (Xw l[k] j k D (l.take k) (wr.alloc (aC (bC l[k]) 26)) (S.gr ((Gr.refl wr).alloc _)) (by omega));rw[<-eF g]at E;have b1:=cC l[k];have b2:=gE l[k];have h:=aA f;generalize qj (l.take k) l[k]=z at*
    generalize l[k]=x at*
    by_cases y:z=0
    .subst y
     go_wp2_with (go_at_call 190;refine E.mono ?_;rintro e P ⟨rfl,G,d⟩;have B:=aA (d rfl);clear d);have c:Hid (Gr w P):=(s.alloc _).grown G (fun q K=>by have:=Q.out;have h3:j=q:=iP K;omega);go_roundw
     .exact⟨k+1,by omega,by go_num,c,by show r=_;rw[h.out];exact aG eV,B⟩
     .simp[intOf];omega
    .have a5:(z==0)=false:=dI.2 y
     have a6:(z != 0)=true:=by simp[y]
     have N:r=z:=by rw[h.out,aF y]
     go_wp2_with (go_at_call 190;refine E.mono ?_;rintro e P ⟨rfl,G,d⟩);have c:Hid (Gr w P):=(s.alloc _).grown G (fun q K=>by have:=Q.out;have h3:j=q:=iP K;omega);go_ret;exact⟨by first|rfl|(rw[N];rfl),c⟩
   .have I:¬(k:Int)<(l.length:Int):=by omega
    have J:k=l.length:=by omega
    subst J;have M:r=0:=by rw[L.out,tt];rfl
    go_wp2_with fail;go_ret;exact⟨by first|rfl|(rw[M];rfl),s⟩
end
def oT(w:aB)(v:Value)(l:bP):Prop:=sG w v l/\∃a c,v=.slice a l.length c/\l.length<=c
def oT.gr{w w':aB}{v:Value}{l:bP}(h:oT w v l)(a:Gr w w'):oT w' v l:=⟨h.1.gr a,h.2⟩
def lD:bP->bP->Int
 |_,[]=>0
 |acc,x::l=>if jt x=0 then(if Lib.containsS acc x=true then 7 else lD (acc++[x]) l)else jt x
def nL(l:bP):Int:=if 20<l.length then 9 else lD [] l
def LT(l:bP)(k:Nat)(h:k<l.length):lD (l.take k) (l.drop k)=if jt l[k]=0 then(if Lib.containsS (l.take k) l[k]=true then 7 else lD (l.take (k+1)) (l.drop (k+1)))else jt l[k]:=by
 rw[kR h,eF h];rfl
def YC{w:aB}{a:dB}{d:Nat}{l:bP}(h:sG w (.slice a l.length d) l)(k:Nat)(t:k<=l.length)(z:l.length<=1000000)(x:aJ)(c:Nat):
  Calls prog 197 #[.slice a k c,.string x] w fun e w'=>e=.returned (.bool (Lib.containsS (l.take k) x))/\w'=w:=by
 obtain⟨p,f,r,n⟩:=h;obtain⟨rfl,rfl⟩:a=p/\d=f:=by simpa using r
 by_cases v:l.length=0
 .have m:k=0:=by omega
  subst m;have:=Tryz.slices_Contains_string_empty a c x w;rw[fy];exact this
 .obtain⟨b,o,i,y,_⟩:=n 0 (by omega)
  subst i
  exact Tryz.slices_Contains_string b o k c l x w t (by omega) (fun j g=>by
   obtain⟨q,u,i,_,s⟩:=n j g;obtain⟨rfl,rfl⟩:b=q/\o=u:=by simpa using i
   rw[s,eD,cO g];rfl)
def Qa(l:bP)(v:Value)(w:aB)(N:ff w)(hv:oT w v l)(hl:l.length<=1000000):Calls prog 162 #[v] w (RG w (.int .i64 (nL l))):=by
 obtain⟨D,a,m,rfl,O⟩:=hv;have B:Hid (nL l=if 20<l.length then 9 else lD [] l):=rfl;by_cases q:20<l.length
 .have F:(20:Int)<(l.length:Int):=by omega
  have t:nL l=9:=by rw[B.out,aG q]
  rw[t];clear D;go_in;go_wp2_with fail;go_ret;exact⟨rfl,Gr.refl w⟩
 .have F:¬(20:Int)<(l.length:Int):=by omega
  have t:nL l=lD [] l:=by rw[B.out,aF q]
  rw[t];have S:=aA (LT l);have L:=aA D;have z:=aA N;have R:Hid (lD [] l=lD (l.take 0) (l.drop 0)):=rfl;generalize lD [] l=r at*
  clear t B D N;go_in;go_wp2_with fail
  go_loopw [11] (fun i wr=>∃k:Nat,k<=l.length/\i=.int .i64 k/\Hid (Gr w wr)/\Hid (r=lD (l.take k) (l.drop k))) (fun i _=>l.length-(intOf i).toNat)
  .exact⟨0,bW _,rfl,Gr.refl w,R⟩
  .
   obtain⟨k,hk,rfl,f,I⟩:=hrel;by_cases s:k<l.length
   .have G:(k:Int)<(l.length:Int):=by omega
    have Y:=nn k
    have Z:(k:Int)<=(l.length:Int):=by omega
    have a2:k<=m:=by omega
    obtain⟨T,n,M,P⟩:=L.out.gr f.out;obtain⟨b,o,U,V,X⟩:=P k s;obtain⟨rfl,rfl⟩:a=T/\m=n:=by simpa using M
    have K:Hid (∀c W,Gr w W->Calls prog 197 #[.slice a k c,.string l[k]] W fun e w'=>e=.returned (.bool (Lib.containsS (l.take k) l[k]))/\w'=W):=fun c W E=>YC (L.gr E) k (by omega) hl l[k] c;have h:=S k s;rw[<-I.out]at h;subst U;have C:Hid (∀W,Gr w W->CG 196 #[.string l[k]] W (.int .i64 (jt l[k]))):=fun W E=>F2 l[k] W (z.gr E);have g:=aA h;generalize jt l[k]=y at*
    generalize Lib.containsS (l.take k) l[k]=ct at*
    generalize l[k]=x at*
    clear h I M P;by_cases u:y=0
    .subst u
     cases ct with
     |true=>
      have j:r=7:=by rw[g.out];rfl
      go_wp2_with (first
       |(go_at_call 196;refine(C _ f).mono ?_;rintro e Q ⟨rfl,p⟩;have d:=aA (f.trans p))
       |(go_at_call 197;refine(K _ _ d).mono ?_;rintro e w' ⟨rfl,rfl⟩))
      go_ret;exact⟨by first|rfl|(rw[j];rfl),d⟩
     |false=>
      go_wp2_with (first
       |(go_at_call 196;refine(C _ f).mono ?_;rintro e Q ⟨rfl,p⟩;have d:=aA (f.trans p))
       |(go_at_call 197;refine(K _ _ d).mono ?_;rintro e w' ⟨rfl,rfl⟩))
      go_roundw
      .exact⟨k+1,by omega,by go_num,d,by show r=_;rw[g.out];rfl⟩
      .simp[intOf];omega
    .have a3:(y==0)=false:=dI.2 u
     have a4:(y != 0)=true:=by simp[u]
     have j:r=y:=by rw[g.out,aF u]
     go_wp2_with (go_at_call 196;refine(C _ f).mono ?_;rintro e Q ⟨rfl,p⟩;have d:=aA (f.trans p));go_ret;exact⟨by first|rfl|(rw[j];rfl),d⟩
   .have G:¬(k:Int)<(l.length:Int):=by omega
    have H:k=l.length:=by omega
    subst H;have J:r=0:=by rw[I.out,tt];rfl
    go_wp2_with fail;go_ret;exact⟨by first|rfl|(rw[J];rfl),f⟩
def kG(l:bP):Int:=if l=[]then 4 else nL l
def m8(l:bP)(a:aJ):ByteArray:=⟨(Lib.join (l.map (·.data.toList)) a.data.toList).toArray⟩
def mA(l:bP):ByteArray:=if kG l=0 then m8 l ⟨#[44]⟩else⟨#[]⟩
def Ca(l:bP)(c:aJ)(m:Nat)(h:((l.map (·.size)).sum)<=m)(g:c.size=1):(Lib.join (l.map (·.data.toList)) c.data.toList).length<=m+l.length:=by
 have d:c.data.toList.length=1:=by rw[<-g];rfl
 induction l generalizing m with
 |nil=>simp[Lib.join]
 |cons a l i=>
  rw[gt,yq]at h
  cases l with
  |nil=>
   rw[gt,nI,nO];have:a.data.toList.length=a.size:=rfl;simp only[dN,iJ];omega
  |cons b l=>
   rw[gt,gt,t_,<-gt (f:=fun x:ByteArray=>x.data.toList),bV,bV,d];have:=i (m-a.size) (by omega);have e:a.data.toList.length=a.size:=rfl;simp only[dN]at this|-
   omega
def Kq(l:bP)(v:Value)(w:aB)(G:ff w)(y:oT w v l)(R:l.length<=1000000)(q:(l.map (·.size)).sum<=1000000):Calls prog 109 #[v] w (RG w (.tuple #[.string (mA l),.int .i64 (kG l)])):=by
 have B:=aA (Qa l v w G y R)
 have s:Hid (l≠[]->∀W,Gr w W->CG 163 #[v,.string ⟨#[44]⟩] W (.string (m8 l ⟨#[44]⟩))):=fun g W O=>by
  obtain⟨⟨L,r,N,H⟩,a,p,rfl,m⟩:=y.gr O;obtain⟨rfl,rfl⟩:a=L/\p=r:=by simpa using N
  have T:0<l.length:=rd.2 g;obtain⟨b,o,C,P,_⟩:=H 0 T;subst C
  exact(Tryz.strings_Join b o p l ⟨#[44]⟩ W (fun j x I=>by
   have E:=(nG.1 I).1;obtain⟨M,V,C,_,Q⟩:=H j E;obtain⟨rfl,rfl⟩:b=M/\o=V:=by simpa using C
   rw[Q];have:=(nG.1 I).2;rw[this]) P (by omega) m (by have:=Ca l ⟨#[44]⟩ 1000000 q rfl;omega)).mono fun e w' h=>⟨h.1,h.2⟩
 obtain⟨a,p,rfl,m⟩:=y.2;have u:Hid (l=[]↔l.length=0):=List.length_eq_zero_iff.symm;have i:Hid (kG l=if l=[]then 4 else nL l):=rfl;have d:Hid (mA l=if kG l=0 then m8 l ⟨#[44]⟩else⟨#[]⟩):=rfl;by_cases g:l=[]
 .have F:l.length=0:=u.1 g
  have f:kG l=4:=by rw[i.out,aG g]
  have c:mA l=⟨#[]⟩:=by rw[d.out,aF (by rw[f];decide)]
  rw[f,c,F];go_in;go_wp2_with fail;go_ret2;exact⟨rfl,Gr.refl w⟩
 .have F:¬l.length=0:=fun h=>g (u.2 h)
  have S:((l.length:Int)==0)=false:=dI.2 (by omega);have f:kG l=nL l:=by rw[i.out,aF g]
  rw[f]at d|-
  generalize nL l=J at*
  by_cases q:J=0
  .subst q
   have c:mA l=m8 l ⟨#[44]⟩:=by rw[d.out,aG rfl]
   rw[c];generalize m8 l ⟨#[44]⟩=t at*
   have z:=aA (s g);generalize l.length=n at*
   go_in;go_wp2_with (first
    |(go_at_call 162;refine bA B fun K k=>?_)
    |(go_at_call 163;refine bA (z K k) fun X D=>?_))
   go_ret2;exact⟨rfl,k.trans D⟩
  .have c:mA l=⟨#[]⟩:=by rw[d.out,aF q]
   have U:(J != 0)=true:=by simp[q]
   rw[c];generalize l.length=n at*
   go_in;go_wp2_with (go_at_call 162;refine bA B fun K k=>?_);go_ret2;exact⟨rfl,k⟩
def PR(b:Int)(e:Nat->aK)(a:dB)(N c:Nat)(h:¬(1<=N/\N<=8))(w:aB):Calls prog 94 #[aE (aW b e (.slice a N c))] w (RG w (.int .i64 2)):=by
 obtain⟨n,l⟩:=ex w.heap.size;have i:Hid (HB (w.alloc (aC (aW b e (.slice a N c)) 47)) n (aW b e (.slice a N c)) 47):=aY _ _ _ l.symm
 have j:Hid (Gr w (w.alloc (aC (aW b e (.slice a N c)) 47))):=(Gr.refl w).alloc _
 have k:Hid (∀W,Calls prog 57 #[.int .i64 (N:Int)] W fun e w'=>e=.returned (.int .i64 2)/\W=w'):=fun W=>by
  have:=wY (N:Int) W;rw[show cH (N:Int)=2 by unfold cH;rw[aG (by omega)]]at this;exact this
 obtain⟨m,o,-,-,r,s,z⟩:=kh i.out;go_in;go_wp2_with fail;generalize w.alloc (aC (aW b e (.slice a N c)) 47)=g at*
 refine ej (by kernel_rfl) (by kernel_rfl) ?_;have d:Hid (∀p:GD,Calls prog 57 #[.int .i64 (N:Int)] (gw g p) fun e f=>e=.returned (.int .i64 2)/\∃q:GD,f=gw g q):=fun p=>E5 (k _);repeat (go_big_quiet_step ((go_at_call 57;with_reducible exact d.out _)))
 refine cX ?_;rintro _ ⟨q,rfl⟩;go_wp2_with fail;go_ret;exact⟨rfl,j.trans (cK _ q)⟩
def aef(b:Int)(e:Nat->aK)(a:dB)(N c:Nat)(h:1<=N/\N<=8)(l:b<0\/((2^N:Nat):Int)<=b)(w:aB):Calls prog 94 #[aE (aW b e (.slice a N c))] w (RG w (.int .i64 2)):=by
 obtain⟨n,s⟩:=ex w.heap.size;have m:Hid (HB (w.alloc (aC (aW b e (.slice a N c)) 47)) n (aW b e (.slice a N c)) 47):=aY _ _ _ s.symm
 have k:Hid (Gr w (w.alloc (aC (aW b e (.slice a N c)) 47))):=(Gr.refl w).alloc _
 have o:Hid (∀W,Calls prog 57 #[.int .i64 (N:Int)] W fun e w'=>e=.returned (.int .i64 0)/\W=w'):=fun W=>by
  have:=wY (N:Int) W;rw[show cH (N:Int)=0 by unfold cH;rw[aF (by omega)]]at this;exact this
 have d:wrap64 ((2:Int)^N)=((2^N:Nat):Int):=by
  have r:∀N:Fin 9,wrap64 ((2:Int)^N.val)=((2^N.val:Nat):Int):=by decide+kernel
  exact r ⟨N,by omega⟩
 have y:(N:Int)<=63:=by omega
 obtain⟨u,v,-,-,C,D,z⟩:=kh m.out;have i:Hid (∀g,∀p:GD,Calls prog 57 #[.int .i64 (N:Int)] (gw g p) fun e j=>e=.returned (.int .i64 0)/\∃q:GD,j=gw g q):=fun g p=>E5 (o _);by_cases f:b<0
 .have t:decide (b<0)=true:=fm f
  clear l d h;go_in;go_wp2_with fail;generalize w.alloc (aC (aW b e (.slice a N c)) 47)=g at*
  refine ej (by kernel_rfl) (by kernel_rfl) ?_;repeat (go_big_quiet_step ((go_at_call 57;with_reducible exact i.out g _)))
  refine cX ?_;rintro _ ⟨q,rfl⟩;go_wp2_with fail;go_ret;exact⟨rfl,k.trans (cK _ q)⟩
 .have t:decide (b<0)=false:=eL f
  have B:wrap64 ((2:Int)^N)<=b:=by rw[d];omega
  clear l d h;go_in;go_wp2_with fail;generalize w.alloc (aC (aW b e (.slice a N c)) 47)=g at*
  refine ej (by kernel_rfl) (by kernel_rfl) ?_;repeat (go_big_quiet_step ((go_at_call 57;with_reducible exact i.out g _)))
  refine cX ?_;rintro _ ⟨q,rfl⟩;go_wp2_with fail;go_ret;exact⟨rfl,k.trans (cK _ q)⟩
def ach(g:Sg)(p:Value)(w:aB)(j:dM w p g.path):Calls prog 94 #[aE (aW g.leaf g.chains p)] w (RG w (.int .i64 (fd g))):=by
 obtain⟨a,c,rfl⟩:=j.shape;by_cases h:1<=g.path.length/\g.path.length<=8
 .by_cases b:0<=g.leaf/\g.leaf<2^g.path.length
  .have e:fd g=0:=by unfold fd;rw[aG ⟨h.1,h.2,b.1,b.2⟩]
   rw[e];have f:=Nv g.leaf.toNat g.chains a g.path.length c h.1 h.2 (by
    have d:((2^g.path.length:Nat):Int)=(2:Int)^g.path.length:=by push_cast;rfl
    omega) w
   rw[Int.toNat_of_nonneg b.1]at f;exact f
  .have e:fd g=2:=by unfold fd;rw[aF (fun k=>b ⟨k.2.2.1,k.2.2.2⟩)]
   rw[e];refine aef g.leaf g.chains a g.path.length c h ?_ w;have d:((2^g.path.length:Nat):Int)=(2:Int)^g.path.length:=by push_cast;rfl
   rw[d];by_cases i:0<=g.leaf
   .exact .inr (by have:=fun k=>b ⟨i,k⟩;omega)
   .exact .inl (by omega)
 .have e:fd g=2:=by unfold fd;rw[aF (fun k=>h ⟨k.1,k.2.1⟩)]
  rw[e];exact PR g.leaf g.chains a g.path.length c h w
def adk(g:Sg)(p:Value)(d:aK)(t:fd g≠0)(w:aB)(l:dM w p g.path):
  Calls prog 144 #[aE (bC d),aE (aW g.leaf g.chains p)] w (RG w (.tuple #[aE (bC aQ),.int .i64 (fd g)])):=by
 obtain⟨n,s⟩:=ex w.heap.size;have y:=aA s;obtain⟨a,c,rfl⟩:=l.shape;obtain⟨S,f⟩:=ex (aW g.leaf g.chains (.slice a g.path.length c));have m:S.length=562:=by rw[<-f];exact d_ _ _ _
 obtain⟨G,J,r,-,o,q⟩:=jP s (aC (bC d) 22) (aC S 47) (aC (bC aQ) 22)
 have h:Hid (∀W,Gr w W->CG 94 #[aE S] W (.int .i64 (fd g))):=fun W B=>by rw[<-f];exact ach g _ W (l.gr B)
 rw[f];generalize fd g=z at*
 have C:(z != 0)=true:=by simp[t]
 have D:=aP o 0 562 (by rw[m];decide);have E:=(bJ o 0 562 (by rw[m];decide)).trans (b_ _ _ m);have H:=aO aQ;have I:=cZ aQ;go_in;go_wp2_with fail;refine bA (h _ r) fun F k=>?_;have j:=aA ((k.block (aI q)).trans q);have u:=aA (r.trans k);clear D E k;have K:=aP j 0 16 (by rw[aO];decide);have L:=bE j 0 16;go_wp2_with fail;have v:Hid (HB (F.setCells (n+1+1) 0 (bC aQ)) (n+1+1) (bC aQ) 22):=bO j rfl
 have i:=aA (u.setsOwn (b:=n+1+1) (by have:=y.out;omega) (bC aQ) 0);refine bI (jA rfl _ _ (n+1+1) _ _ _ _ rfl v underlying22 rfl (rq _)) rfl ?_;exact⟨rfl,i⟩
def Md(h:Int)(m:aK)(g:Sg)(p:Value)(d:aK)(z:Int)(t:z≠0)(L:¬(1<=h/\h<=8)/\z=2\/(1<=h/\h<=8)/\fd g=z)(w:aB)(s:dM w p g.path):
  Calls prog 95 #[aE (aN h m),aE (bC d),aE (aW g.leaf g.chains p)] w (RG w (.int .i64 z)):=by
 obtain⟨n,M⟩:=ex w.heap.size;obtain⟨a,c,rfl⟩:=s.shape;obtain⟨S,k⟩:=ex (aW g.leaf g.chains (.slice a g.path.length c));have P:S.length=562:=by rw[<-k];exact d_ _ _ _
 obtain⟨Q,U,o,H,u,v⟩:=jP M (aC (aN h m) 44) (aC (bC d) 22) (aC S 47)
 have f:Hid (∀W,CG 30 #[aE (aN h m)] W (.int .i64 (cH h))):=fun W=>pf h m W
 have i:Hid (fd g=z->∀W,Gr w W->CG 144 #[aE (bC d),aE S] W (.tuple #[aE (bC aQ),.int .i64 z])):=fun l W K=>by
  have:=adk g _ d (by rw[l];exact t) W (s.gr K);rw[l,k]at this;exact this
 have I:=aO d;have R:=aO aQ;have T:=cZ aQ;have N:(z==0)=false:=dI.2 t;have O:(z != 0)=true:=by simp[t]
 obtain⟨y,B,C,D,E,F⟩:=sb H.out;rw[k];rcases L with⟨r,rfl⟩|⟨r,l⟩
 .have b:cH h=2:=by unfold cH;rw[aG (by omega)]
  rw[b]at f;go_in;go_wp2_with fail;refine bA (f _) fun G j=>?_;clear y B C D E F;go_wp2_with fail;go_ret;exact⟨rfl,o.trans j⟩
 .have b:cH h=0:=by unfold cH;rw[aF (by omega)]
  rw[b]at f;have q:=aA (i l);go_in;go_wp2_with fail;refine bA (f _) fun G j=>?_;clear y B C D E F;obtain⟨V,X,Y⟩:=dL 16 I ((j.block (aI u.out)).trans u.out);obtain⟨Z,q4,q5⟩:=dL 562 P ((j.block (aI v.out)).trans v.out);go_wp2_with (go_at_call 144;refine bA (q G (o.trans j)) fun w2 J=>?_);go_ret;exact⟨rfl,o.trans ((j.trans J).alloc _)⟩
def VX(h:Int)(a:aK)(g:Sg)(p:Value)(d:aK)(w:aB)(j:Kt w)(c:dM w p g.path):
  Calls prog 95 #[aE (aN h a),aE (bC d),aE (aW g.leaf g.chains p)] w (RG w (.int .i64 (kj h a d g))):=by
 by_cases b:1<=h/\h<=8
 .by_cases hs:fd g=0
  .have f:1<=g.path.length/\g.path.length<=8/\0<=g.leaf/\g.leaf<2^g.path.length:=by
    by_cases k:1<=g.path.length/\g.path.length<=8/\0<=g.leaf/\g.leaf<2^g.path.length
    .exact k
    .unfold fd at hs;rw[aF k]at hs;cases hs
   have e:kj h a d g=if(g.path.length:Int)≠h\/kS d g≠a then 17 else 0:=by
    unfold kj;rw[aF (fun k=>k b),aF (fun k=>k hs)]
   rw[e];have i:=WP h a b g.leaf.toNat g.chains p g.path d f.1 f.2.1 (by
    have l:((2^g.path.length:Nat):Int)=(2:Int)^g.path.length:=by push_cast;rfl
    omega) w j c
   rw[Int.toNat_of_nonneg f.2.2.1]at i;exact i
  .have e:kj h a d g=fd g:=by unfold kj;rw[aF (fun k=>k b),aG hs]
   rw[e];exact Md h a g p d _ hs (.inr ⟨b,rfl⟩) w c
 .have e:kj h a d g=2:=by unfold kj;rw[aG b]
  rw[e];exact Md h a g p d 2 (aH rfl) (.inl ⟨b,rfl⟩) w c
end Go.Proofs.YtjfaogajmoffoaaGreatDoor
