/- Lemmas for VerifyStatus. -/
import Derived.Test.YtjfaogajmoffoaaGreatDoorQBU
set_option maxRecDepth 100000
set_option maxHeartbeats 16000000
set_option linter.all false
namespace Go.Proofs.YtjfaogajmoffoaaGreatDoor
open Go.RowKit Tryz
def vv(a b c d:Int)(e:a=c)(f:b=d):#[Value.int IntKind.i64 a,Value.int .i64 b]=#[Value.int .i64 c,Value.int .i64 d]:=by rw[e,f]
def Bu(c:Int)(w:aB)(g:0<=c)(h:c<=255):
  Calls prog 237 #[.int .u8 c] w fun e w'=>e=.returned (.tuple #[.int .i64 (fR c),.int .i64 (ip c)])/\w=w':=by
 have a:Hid (fR c=if c<128 then 1 else if c<192 then 0 else if c<224 then 2 else if c<240 then 3 else if c<248 then 4 else 0):=rfl;have b:Hid (ip c=if c<128 then c else if c<192 then 0 else if c<224 then c-192 else if c<240 then c-224 else if c<248 then c-240 else 0):=rfl;go_in;go_wp2;all_goals
  go_ret2;refine⟨ei Ending.returned (ei Value.tuple (vv _ _ _ _ ?_ ?_)),rfl⟩
  .have d:=a.out;omega
  .have f:=b.out;omega
def WZ(n:Int)(w:aB)(a:0<=n)(b:n<=4):
  Calls prog 238 #[.int .i64 n] w (RG w (.int .i64 (qX n))):=by
 rcases(show n=0\/n=1\/n=2\/n=3\/n=4 by omega)with rfl|rfl|rfl|rfl|rfl
 all_goals
  go_in;go_wp2_with fail;go_ret;exact⟨rfl,(Gr.refl _).alloc _⟩
def RA(n:Int)(w:aB)(a:0<=n)(b:n<=4):
  Calls prog 239 #[.int .i64 n] w (RG w (.int .i64 (rC n))):=by
 rcases(show n=0\/n=1\/n=2\/n=3\/n=4 by omega)with rfl|rfl|rfl|rfl|rfl
 all_goals
  go_in;go_wp2_with fail;go_ret;exact⟨rfl,(Gr.refl _).alloc _⟩
def PE(r:Int)(s:aJ)(k:Nat)(b:1<=k)(h:k<s.size):ki r (((bl s).drop 1).take k)=64*ki r (((bl s).drop 1).take (k-1))+(s[k].toNat:Int)-128:=by
 obtain⟨j,rfl⟩:∃j,k=j+1:=⟨k-1,by omega⟩;have a:j<((bl s).drop 1).length:=by rw[eh,bN];omega
 rw[eF a];unfold ki;rw[ta];simp only[ml,mw,yy];have e:((bl s).drop 1)[j]=s[j+1]:=by
  simp only[xe,pl 1 j];rfl
 rw[e];rfl
def IJ(s:aJ)(k:Nat)(b:1<=k)(h:k<s.size):lU (((bl s).drop 1).take k)=(lU (((bl s).drop 1).take (k-1))&&(decide (128<=(s[k].toNat:Int))&&decide ((s[k].toNat:Int)<=191))):=by
 obtain⟨j,rfl⟩:∃j,k=j+1:=⟨k-1,by omega⟩;have a:j<((bl s).drop 1).length:=by rw[eh,bN];omega
 rw[eF a];unfold lU;have e:((bl s).drop 1)[j]=s[j+1]:=by
  simp only[xe,pl 1 j];rfl
 rw[rW,e];simp only[nm,rP,pW,yy];rfl
def Hn(x:Int)(a:0<=x)(b:x<=255):0<=ip x/\ip x<128:=by
 rcases qb x a b with h|h|h|h|h|h|h|h<;>omega
def zY(b:Bool)(n:Int):Int:=if b=true then n else 0
def VN(l:aM)(k:Nat)(h:lU l=true):lU (l.take k)=true:=by
 unfold lU at*
 rw[gY]at*
 exact fun x a=>h x (List.mem_of_mem_take a)
def UY(s:aJ)(w:aB)(hp:0<s.size)(n:Int)(L:Hid (fR (s[0].toNat:Int)=n))(h1:1<=n)(h4:n<=4)(hs:(s.size:Int)<=n)(V:Int)(K:Hid (ki (ip (s[0].toNat:Int)) ((bl s).drop 1)=V))(J:Hid (lU ((bl s).drop 1)=true))(R:Bool)(f:Hid (py n (pN (n.toNat-s.size) V) (pZ (n.toNat-s.size) V)=R)):
  Calls prog 204 #[.string s] w (RG w (.tuple #[.bool R,.int .i64 (zY R n),.int .i64 (zY R V)])):=by
 have I:(s[0].toNat:Int)<=255:=by have:=s[0].toNat_lt;omega
 have z1:(n==0)=false:=by simp;omega
 have z2:decide (n<(s.size:Int))=false:=by simp;omega
 have u:(0:Int)<=ip (s[0].toNat:Int)/\ip (s[0].toNat:Int)<(128:Int):=Hn _ (by omega) I;have N:=u.1;have Y:=u.2;go_in;go_wp2_with fail;refine dK (Bu _ _ (by omega) I) ?_;rw[L.out];go_wp2_with fail
 go_loop [6,7] (fun v i=>∃k:Nat,1<=k/\k<=s.size/\i=.int .i64 k/\∃x:Int,Hid (x=ki (ip (s[0].toNat:Int)) (((bl s).drop 1).take (k-1)))/\0<=x/\(k<=1->x<128)/\(k<=2->x<8192)/\(k<=3->x<524288)/\x<33554432/\v=.int .i64 x) (fun _ i=>s.size-(intOf i).toNat)
 .exact⟨1,by omega,by omega,rfl,ip (s[0].toNat:Int),rfl,N,by omega,by omega,by omega,by omega,rfl⟩
 .
  obtain⟨k,o,Q,rfl,x,q,S,r,t,p,x4,rfl⟩:=hrel;by_cases c:k<s.size
  .have b1:(s[k].toNat:Int)<=255:=by have:=s[k].toNat_lt;omega
   have z:lU (((bl s).drop 1).take k)=true:=VN _ k J;rw[IJ s k o c]at z;simp only[fH,iK]at z;obtain⟨_,c1,c2⟩:=z;have m:Hid ((64:Int)*x+(s[k].toNat:Int)-(128:Int)=ki (ip (s[0].toNat:Int)) (((bl s).drop 1).take k)):=by
    show _=_;rw[PE _ s k o c,<-q.out]
   have T:=p (by omega);go_wp2_with fail;exact⟨⟨k+1,by omega,by omega,by go_num,_,m,by omega,by omega,by omega,by omega,by omega,rfl⟩,by simp[intOf];omega⟩
  .have F:=r;have G:=t;have H:=p
   have g:Hid (x=V):=by
    have:=q.out;rw[eq (by rw[eh,bN];omega),K.out]at this;exact this
   have E:Hid (py n (pN (n.toNat-s.size) x) (pZ (n.toNat-s.size) x)=R):=by rw[g.out];exact f
   have r:s.size<=1->x<128:=fun h=>F (by omega);have t:s.size<=2->x<8192:=fun h=>G (by omega);have p:s.size<=3->x<524288:=fun h=>H (by omega);clear F G H;go_wp2_with fail
   go_loop [8,9,10] (fun l h i=>∃k:Nat,s.size<=k/\(k:Int)<=n/\i=.int .i64 k/\∃a b:Int,Hid (py n (pN (n.toNat-k) a) (pZ (n.toNat-k) b)=R)/\0<=a/\a<=b/\(k<=1->b<128)/\(k<=2->b<8192)/\(k<=3->b<524288)/\b<33554432/\l=.int .i64 a/\h=.int .i64 b) (fun _ _ i=>n.toNat-(intOf i).toNat)
   .exact⟨s.size,by omega,by omega,rfl,x,x,E,S,by omega,by omega,by omega,by omega,by omega,rfl,rfl⟩
   .
    obtain⟨j,O,P,rfl,a,b,f,Z,ab,U,W,M,y4,rfl,rfl⟩:=hrel;by_cases d:(j:Int)<n
    .have X:=M (by omega)
     have m:Hid (py n (pN (n.toNat-(j+1)) (64*a)) (pZ (n.toNat-(j+1)) (64*b+63))=R):=by
      have:=f.out;rw[show n.toNat-j=(n.toNat-(j+1))+1 by omega]at this;exact this
     go_wp2_with fail;exact⟨⟨j+1,by omega,by omega,by go_num,64*a,64*b+63,m,by omega,by omega,by omega,by omega,by omega,by omega,rfl,rfl⟩,by simp[intOf];omega⟩
    .have m:Hid (py n a b=R):=by
      have:=f.out;rw[show n.toNat-j=0 by omega]at this;exact this
     go_wp2_with fail;refine bA (WZ _ _ (by omega) (by omega)) fun w1 B=>?_;go_wp2_with fail;all_goals
      refine bA (RA _ _ (by omega) (by omega)) fun w2 C=>?_;go_wp2_with fail
     all_goals
      go_ret3
      refine⟨?_,B.trans C⟩;have f:=m.out;have y:=g.out;subst f y;first
       |(have D:py n a b=true:=(vd _ _ _).2 (by omega)
         rw[D];rfl)
       |(have D:py n a b=false:=by
          rw[ui,ne_eq,vd];omega
         rw[D];rfl)
def QA(s:aJ)(w:aB)(D:0<s.size)(n:Int)(q:Hid (fR (s[0].toNat:Int)=n))(B:1<=n)(C:n<=4)(E:(s.size:Int)<=n)(o:Hid (lU ((bl s).drop 1)=false)):
  Calls prog 204 #[.string s] w (RG w (.tuple #[.bool false,.int .i64 0,.int .i64 0])):=by
 have h:(s[0].toNat:Int)<=255:=by have:=s[0].toNat_lt;omega
 have J:(n==0)=false:=by simp;omega
 have K:decide (n<(s.size:Int))=false:=by simp;omega
 have f:(0:Int)<=ip (s[0].toNat:Int)/\ip (s[0].toNat:Int)<(128:Int):=Hn _ (by omega) h;have l:=f.1;have u:=f.2;go_in;go_wp2_with fail;refine dK (Bu _ _ (by omega) h) ?_;rw[q.out];go_wp2_with fail
 go_loop [6,7] (fun v i=>∃k:Nat,1<=k/\k<=s.size/\i=.int .i64 k/\∃x:Int,Hid (lU (((bl s).drop 1).take (k-1))=true)/\0<=x/\(k<=1->x<128)/\(k<=2->x<8192)/\(k<=3->x<524288)/\x<33554432/\v=.int .i64 x) (fun _ i=>s.size-(intOf i).toNat)
 .exact⟨1,by omega,by omega,rfl,ip (s[0].toNat:Int),rfl,l,by omega,by omega,by omega,by omega,rfl⟩
 .
  obtain⟨k,g,p,rfl,x,d,F,G,H,r,I,rfl⟩:=hrel;by_cases c:k<s.size
  .have y:(s[k].toNat:Int)<=255:=by have:=s[k].toNat_lt;omega
   have b:=IJ s k g c;rw[d.out,vB]at b;by_cases a:128<=(s[k].toNat:Int)/\(s[k].toNat:Int)<=191
   .obtain⟨a,m⟩:=a
    have j:Hid (lU (((bl s).drop 1).take k)=true):=by
     show _=_;rw[b];simp;omega
    have t:=r (by omega);go_wp2_with fail;exact⟨⟨k+1,by omega,by omega,by go_num,_,j,by omega,by omega,by omega,by omega,by omega,rfl⟩,by simp[intOf];omega⟩
   .skip
    by_cases m:128<=(s[k].toNat:Int)
    .have z:(191:Int)<(s[k].toNat:Int):=by omega
     go_wp2_with fail
     go_ret3
     exact⟨rfl,Gr.refl _⟩
    .skip
     go_wp2_with fail
     go_ret3
     exact⟨rfl,Gr.refl _⟩
  .exfalso
   have:=d.out;rw[eq (by rw[eh,bN];omega),o.out]at this;cases this
def Ts(s:aJ)(w:aB)(j:0<s.size)(d:s.size<=140737488351232)(n:Int)(b:Hid (fR (s[0].toNat:Int)=n))(g:0<=n)(i:n<=4)(h:n=0\/n<(s.size:Int)):
  Calls prog 204 #[.string s] w (RG w (.tuple #[.bool false,.int .i64 0,.int .i64 0])):=by
 have a:(s[0].toNat:Int)<=255:=by have:=s[0].toNat_lt;omega
 by_cases c:n=0
 .have f:(n==0)=true:=by simp;omega
  go_in;go_wp2_with fail;refine dK (Bu _ _ (by omega) a) ?_;rw[b.out];go_wp2_with fail
  go_ret3
  exact⟨rfl,Gr.refl _⟩
 .have f:(n==0)=false:=by simp;omega
  have k:n<(s.size:Int):=by omega
  go_in;go_wp2_with fail;refine dK (Bu _ _ (by omega) a) ?_;rw[b.out];go_wp2_with fail
  go_ret3
  exact⟨rfl,Gr.refl _⟩
def N_(x:Int):fR x=0\/fR x=1\/fR x=2\/fR x=3\/fR x=4:=by
 unfold fR;repeat' split;all_goals omega
def re(s:aJ)(w:aB)(h:0<s.size)(m:s.size<=140737488351232):
  Calls prog 204 #[.string s] w (RG w (.tuple #[.bool (fg (bl s)),.int .i64 (gG (bl s)),.int .i64 (iw (bl s))])):=by
 have g:=wJ s h;have l:((s[0]::(bl s).drop 1).length:Int)=(s.size:Int):=by rw[<-g,bN]
 have n:=N_ (bz s[0]);have i:fg (bl s)=fg (s[0]::(bl s).drop 1):=ei fg g;have j:gG (bl s)=gG (s[0]::(bl s).drop 1):=ei gG g;have k:iw (bl s)=iw (s[0]::(bl s).drop 1):=ei iw g;by_cases c:fR (bz s[0])=0\/fR (bz s[0])<(s.size:Int)
 .have a:fg (s[0]::(bl s).drop 1)=false:=by simp only[fg];rw[l,aG c]
  have b:gG (s[0]::(bl s).drop 1)=0:=by unfold gG;rw[a];rfl
  have f:iw (s[0]::(bl s).drop 1)=0:=by unfold iw;rw[a];rfl
  rw[i,j,k,a,b,f];exact Ts s w h m _ rfl (by unfold bz at*;omega) (by unfold bz at*;omega) c
 .by_cases d:lU ((bl s).drop 1)=true
  .have a:fg (s[0]::(bl s).drop 1)=py (fR (bz s[0])) (pN ((fR (bz s[0])).toNat-s.size) (ki (ip (bz s[0])) ((bl s).drop 1))) (pZ ((fR (bz s[0])).toNat-s.size) (ki (ip (bz s[0])) ((bl s).drop 1))):=by
    simp only[fg];rw[l,aF c,aG d,show(fR (bz s[0])-(s.size:Int)).toNat=(fR (bz s[0])).toNat-s.size by omega]
   have b:gG (s[0]::(bl s).drop 1)=zY (fg (s[0]::(bl s).drop 1)) (fR (bz s[0])):=rfl;have f:iw (s[0]::(bl s).drop 1)=zY (fg (s[0]::(bl s).drop 1)) (ki (ip (bz s[0])) ((bl s).drop 1)):=rfl;rw[i,j,k,b,f,a];exact UY s w h _ rfl (by unfold bz at*;omega) (by unfold bz at*;omega) (by unfold bz at*;omega) _ rfl d _ rfl
  .have a:fg (s[0]::(bl s).drop 1)=false:=by simp only[fg];rw[l,aF c,aF d]
   have b:gG (s[0]::(bl s).drop 1)=0:=by unfold gG;rw[a];rfl
   have f:iw (s[0]::(bl s).drop 1)=0:=by unfold iw;rw[a];rfl
   rw[i,j,k,a,b,f];exact QA s w h _ rfl (by unfold bz at*;omega) (by unfold bz at*;omega) (by unfold bz at*;omega) (ui.2 d)
def abM(s:aJ)(w:aB)(I:0<s.size)(L:s.size<=140737488351232):
  Calls prog 173 #[.string s] w (RG w (.tuple #[.int .i64 (oE (bl s)),.int .i64 (oe (bl s)),.int .i64 (oD (bl s))])):=by
 have E:=EG s 1 (by omega);have c:=aA E;have C:bl (s.extract 0 1)=(bl s).take 1:=FO s 1;have q:=aA C;have b:(bl s).take 1=[s[0]]:=by rw[wJ s I];rfl
 have u:gG ((bl s).take 1)=dC (bz s[0]):=by rw[b];exact L5 _
 have D:=yE (bz s[0]);by_cases a:fg ((bl s).take 1)=true
 .have n:dC (bz s[0])≠0:=by rw[b,sI]at a;exact a
  by_cases d:gG ((bl s).take 1)<=((bl s).length:Int)
  .have p:=EG s (gG ((bl s).take 1)).toNat (by rw[bN]at d;omega)
   have o:=FO s (gG ((bl s).take 1)).toNat;obtain⟨m,h⟩:∃m:Nat,gG ((bl s).take 1)=(m:Int):=⟨(gG ((bl s).take 1)).toNat,by omega⟩;have H:1<=m:=by omega
   have N:m<=s.size:=by rw[bN]at d;omega
   by_cases g:fg ((bl s).take m)=true
   .have l:oE (bl s)=iw ((bl s).take m):=by unfold oE;rw[aG a,aG d,h,m_,aG g]
    have k:oe (bl s)=m:=by unfold oe;rw[aG a,aG d,h,m_,aG g]
    have j:oD (bl s)=0:=by unfold oD;rw[aG a,aG d,h,m_,aG g]
    rw[l,k,j];rw[h,m_]at p o;have z:=aA h;have v:=aA a;have x:=aA g;have r:=aA p;have y:=aA o;go_in;go_wp2_with fail;refine(re _ _ (by rw[c.out];omega) (by rw[c.out];omega)).mono ?_;rintro e G ⟨rfl,f⟩;rw[q.out,v.out,z.out];generalize iw ((bl s).take 1)=F;go_wp2_with fail;refine(re _ _ (by rw[r.out];omega) (by rw[r.out];omega)).mono ?_;rintro e K ⟨rfl,i⟩;rw[y.out,x.out];go_wp2_with fail
    go_ret3
    exact⟨rfl,f.trans i⟩
   .have l:oE (bl s)=0:=by unfold oE;rw[aG a,aG d,h,m_,aF g]
    have k:oe (bl s)=0:=by unfold oe;rw[aG a,aG d,h,m_,aF g]
    have j:oD (bl s)=3:=by unfold oD;rw[aG a,aG d,h,m_,aF g]
    rw[l,k,j];rw[h,m_]at p o;have t:fg ((bl s).take m)=false:=by simpa using g
    have z:=aA h;have v:=aA a;have x:=aA t;have r:=aA p;have y:=aA o;go_in;go_wp2_with fail;refine(re _ _ (by rw[c.out];omega) (by rw[c.out];omega)).mono ?_;rintro e G ⟨rfl,f⟩;rw[q.out,v.out,z.out];generalize iw ((bl s).take 1)=F;go_wp2_with fail;refine(re _ _ (by rw[r.out];omega) (by rw[r.out];omega)).mono ?_;rintro e K ⟨rfl,i⟩;rw[y.out,x.out];generalize iw ((bl s).take m)=M;generalize gG ((bl s).take m)=J;go_wp2_with fail
    go_ret3
    exact⟨rfl,f.trans i⟩
  .obtain⟨m,h⟩:∃m:Nat,gG ((bl s).take 1)=(m:Int):=⟨(gG ((bl s).take 1)).toNat,by omega⟩
   have H:s.size<m:=by rw[bN]at d;omega
   by_cases g:fg (bl s)=true
   .have l:oE (bl s)=0:=by unfold oE;rw[aG a,aF d]
    have k:oe (bl s)=0:=by unfold oe;rw[aG a,aF d]
    have j:oD (bl s)=23:=by unfold oD;rw[aG a,aF d,aG g]
    rw[l,k,j];have z:=aA h;have v:=aA a;have x:=aA g;go_in;go_wp2_with fail;refine(re _ _ (by rw[c.out];omega) (by rw[c.out];omega)).mono ?_;rintro e G ⟨rfl,f⟩;rw[q.out,v.out,z.out];generalize iw ((bl s).take 1)=F;go_wp2_with fail;refine bA (re _ _ I L) fun K i=>?_;rw[x.out];generalize iw (bl s)=M;generalize gG (bl s)=J;go_wp2_with fail
    go_ret3
    exact⟨rfl,f.trans i⟩
   .have l:oE (bl s)=0:=by unfold oE;rw[aG a,aF d]
    have k:oe (bl s)=0:=by unfold oe;rw[aG a,aF d]
    have j:oD (bl s)=3:=by unfold oD;rw[aG a,aF d,aF g]
    rw[l,k,j];have t:fg (bl s)=false:=by simpa using g
    have z:=aA h;have v:=aA a;have x:=aA t;go_in;go_wp2_with fail;refine(re _ _ (by rw[c.out];omega) (by rw[c.out];omega)).mono ?_;rintro e G ⟨rfl,f⟩;rw[q.out,v.out,z.out];generalize iw ((bl s).take 1)=F;go_wp2_with fail;refine bA (re _ _ I L) fun K i=>?_;rw[x.out];generalize iw (bl s)=M;generalize gG (bl s)=J;go_wp2_with fail
    go_ret3
    exact⟨rfl,f.trans i⟩
 .have l:oE (bl s)=0:=by unfold oE;rw[aF a]
  have k:oe (bl s)=0:=by unfold oe;rw[aF a]
  have j:oD (bl s)=6:=by unfold oD;rw[aF a]
  rw[l,k,j];have B:fg ((bl s).take 1)=false:=by simpa using a
  have v:=aA B;go_in;go_wp2_with fail;refine(re _ _ (by rw[c.out];omega) (by rw[c.out];omega)).mono ?_;rintro e G ⟨rfl,f⟩;rw[q.out,v.out];generalize iw ((bl s).take 1)=F;generalize gG ((bl s).take 1)=J;go_wp2_with fail
  go_ret3
  exact⟨rfl,f⟩
def J7(s:aJ)(w:aB)(a:0<s.size)(b:s.size<=140737488351232):
  Calls prog 173 #[.string s] w (RG w (.tuple #[.int .i64 (ky (bl s)),.int .i64 (eo (bl s)),.int .i64 (eK (bl s))])):=by
 have h:=adD (bl s) (by rw[ne_eq,Td];omega);rw[<-h.1,<-h.2.1,<-h.2.2];exact abM s w a b
def Gr.by{w w':aB}(h:Gr w w')(row:Option Nat):w.grownBy w' row:=⟨vE h,aeR h,vr h,BM h,fun k a _=>ma h k a⟩
def Gr.own{w w':aB}(h:Gr w w'){base:Nat}{e:TypeId}{size:Nat}{v:Value}{n:Nat}{a:bF}(b:w.ownsRow base e size v n a):w'.ownsRow base e size v n a:=
 b.kept (h.by none) (by cases v.ownBlock<;>simp)
def rK(u v:Value):Prop:=u.ownBlock=none\/u.ownBlock≠v.ownBlock
def rK.symm{u v:Value}(h:rK u v):rK v u:=by
 unfold rK at*
 rcases h with h|h
 .cases hv:v.ownBlock<;>simp[h]
 .exact .inr (fun e=>h e.symm)
def nk(w:aB)(base:Nat)(v:Value)(a:List Int):Prop:=w.ownsRow base 3 1 v a.length (a.map (Value.int .i64))
def nk.gr{w w':aB}{base:Nat}{v:Value}{a:List Int}(h:nk w base v a)(b:Gr w w'):nk w' base v a:=b.own h
def KJ{W b:aB}{base:Nat}{u v a:Value}{c i:List Int}{x:Int}(j:nk W base u c)(g:nk W base v i)(f:rK u v)
  (l:b.ownsRow base 3 1 a (c.length+1) (c.map (Value.int .i64)++[.int .i64 x])) (k:W.grownBy b u.ownBlock) (d:a.ownBlock=u.ownBlock\/a.ownBlock=some W.heap.size):
  nk b base a (c++[x])/\nk b base v i/\rK a v:=by
 refine⟨?_,g.kept k f.symm,?_⟩
 .unfold nk;simpa using l
 .rcases d with h|h
  .unfold rK at*;rw[h];exact f
  .refine .inr (fun e=>?_)
   rw[h]at e;have:=(fA g) _ e.symm;omega
def Wc:(prog.info? 3).map (fun i=>(i.zero,i.size,i.bytes))=some (some (.int .i64 0),1,8):=by kernel_rfl
def nB(l:List Nat):List Int:=l.map Int.ofNat
def Hw(w:aB)(b a:List Int)(A:Nat)(E:Int)(e:Ending)(w':aB):Prop:=
 ∃u v,e=.returned (.tuple #[u,v,.int .i64 A,.int .i64 E])/\nk w' w.heap.size u b/\nk w' w.heap.size v a/\Gr w w'
def RI(s:aJ)(w:aB)(hs:s.size<=1000000)(C B:List Int)(A:Nat)(E:Int)(L:Hid (C=iy (bl s)))(K:Hid (B=nB (jY 0 (bl s))))(hA:Hid (A=ls 0 (bl s)))(hE:Hid (E=iH (bl s))):
  Calls prog 125 #[.string s] w (Hw w C B A E):=by
 obtain⟨i0,hi,Q,S,T⟩:=Az Wc;go_in;go_wp2_with fail
 go_loopw [6,7,8] (fun u v t wr=>∃(k:Nat) (rs l:List Int),k<=s.size/\t=.int .i64 k/\rs.length<=k/\l.length<=k/\Hid (C=rs++iy ((bl s).drop k))/\Hid (B=l++nB (jY k ((bl s).drop k)))/\Hid (A=ls k ((bl s).drop k))/\Hid (E=iH ((bl s).drop k))/\
  nk wr w.heap.size u rs/\nk wr w.heap.size v l/\rK u v/\Gr w wr) (fun _ _ t _=>s.size-(intOf t).toNat)
 .exact⟨0,[],[],bW _,rfl,bW _,bW _,L,K,hA,hE,FC _ _ _ _,FC _ _ _ _,.inl rfl,Gr.refl _⟩
 .
  obtain⟨k,rs,l,hk,rfl,a4,a5,I,H,F,G,X,Y,M,W⟩:=hrel;by_cases c:k<s.size
  .have m:(bl s).drop k≠[]:=by rw[ub s k c];simp
   by_cases d:eK ((bl s).drop k)=0
   .have a6:=yc _ d
    have a2:=Bl ((bl s).drop k);rw[eh,bN]at a2;have j:Hid (C=(rs++[ky ((bl s).drop k)])++iy ((bl s).drop (k+eo ((bl s).drop k)))):=by
     have:=I.out;rw[BN _ d,nD]at this;simpa[Hid]using this
    have i:Hid (B=(l++[(k:Int)])++nB (jY (k+eo ((bl s).drop k)) ((bl s).drop (k+eo ((bl s).drop k))))):=by
     have:=H.out;rw[Eh _ _ d,nD]at this;simpa[Hid,nB]using this
    have g:Hid (A=ls (k+eo ((bl s).drop k)) ((bl s).drop (k+eo ((bl s).drop k)))):=by
     have:=F.out;rw[M4 _ _ d,nD]at this;exact this
    have h:Hid (E=iH ((bl s).drop (k+eo ((bl s).drop k)))):=by
     have:=G.out;rw[MC _ d,nD]at this;exact this
    have D:=aA d;go_wp2_with fail;refine(J7 _ _ (by rw[rQ];omega) (by rw[rQ];omega)).mono ?_;rintro e w' ⟨rfl,a⟩;rw[uy,D.out];generalize ky ((bl s).drop k)=R at*
    generalize eo ((bl s).drop k)=n at*
    have o:=X.gr a;have U:=Y.gr a;have z:=W.trans a;have hB:=z.size;have m1:rs.length+1<=maxLen:=by unfold maxLen;omega
    have m2:l.length+1<=maxLen:=by unfold maxLen;omega
    have b1:(rs.length+1)*8<=140737488355328:=by omega
    have b2:(l.length+1)*8<=140737488355328:=by omega
    go_wp2_with (at_builtin;refine wpList_append_own_at _ rfl (.tmp 30) (.tmp 32) 223 rfl w.heap.size 3 i0 (.int .i64 0) 1 8 underlying223 hi Q S T rfl (aH rfl) _ _ _ rfl (World.ownsRow.alloc o _) (aD (w'.heap.size) 0) 1 1 [.int .i64 R] rfl rfl (cell_one_new _ _ _) ?_ m1 b1 ?_ ?_)
    .intro u P;simp at P;subst P;rfl
    .simp;omega
    intro u1 w1 N b _ p;obtain⟨ju,Z,V⟩:=KJ (o.gr ((Gr.refl _).alloc _)) (U.gr ((Gr.refl _).alloc _)) M N b (by simpa using p);have y:Gr w w1:=(z.alloc _).grown b (fun q hq=>(fA o q hq).1);have hB:=y.size;go_wp2_with (at_builtin;refine wpList_append_own_at _ rfl (.tmp 34) (.tmp 36) 223 rfl w.heap.size 3 i0 (.int .i64 0) 1 8 underlying223 hi Q S T rfl (aH rfl) _ _ _ rfl (World.ownsRow.alloc Z _) (aD (w1.heap.size) 0) 1 1 [.int .i64 k] rfl rfl (cell_one_new _ _ _) ?_ m2 b2 ?_ ?_)
    .intro u P;simp at P;subst P;rfl
    .simp;omega
    intro v2 w2 O f _ r;obtain⟨kv,ku,a3⟩:=KJ (Z.gr ((Gr.refl _).alloc _)) (ju.gr ((Gr.refl _).alloc _)) V.symm O f (by simpa using r);have a1:Gr w w2:=(y.alloc _).grown f (fun q hq=>(fA Z q hq).1);go_wp2_with fail;go_roundw
    .exact⟨k+n,rs++[R],l++[(k:Int)],by omega,by go_num,by simp;omega,by simp;omega,j,i,g,h,ku,kv,a3.symm,a1⟩
    .simp[intOf];omega
   .have j:Hid (C=rs):=by
     have:=I.out;rw[Cv _ d,je]at this;exact this
    have i:Hid (B=l):=by
     have:=H.out;rw[Co _ _ d]at this;simpa[Hid,nB]using this
    have g:Hid (A=k):=by
     have:=F.out;rw[Lb _ _ m d]at this;exact this
    have h:Hid (E=eK ((bl s).drop k)):=by
     have:=G.out;rw[LX _ m d]at this;exact this
    have D:(eK ((bl s).drop k) != 0)=true:=by simpa using d
    go_wp2_with fail;refine(J7 _ _ (by rw[rQ];omega) (by rw[rQ];omega)).mono ?_;rintro e w' ⟨rfl,a⟩;rw[uy];generalize ky ((bl s).drop k)=R at*
    generalize eo ((bl s).drop k)=n at*
    generalize eK ((bl s).drop k)=x at*
    go_wp2_with fail;refine bI (Jc rfl _ _ _) rfl ?_;have h1:=j.out;have h2:=i.out;have h3:=g.out;have h4:=h.out;subst h1 h2 h3 h4;exact⟨_,_,rfl,X.gr a,Y.gr a,W.trans a⟩
  .have J:(bl s).drop k=[]:=jn (by rw[bN];omega)
   have j:Hid (C=rs):=by
    have:=I.out;rw[J,GP,je]at this;exact this
   have i:Hid (B=l):=by
    have:=H.out;rw[J,Qy]at this;simpa[Hid,nB]using this
   have g:Hid (A=0):=by
    have:=F.out;rw[J,GJ]at this;exact this
   have h:Hid (E=0):=by
    have:=G.out;rw[J,Jz]at this;exact this
   go_wp2_with fail;refine bI (Jc rfl _ _ _) rfl ?_;have h1:=j.out;have h2:=i.out;have h3:=g.out;have h4:=h.out;subst h1 h2 h3 h4;exact⟨_,_,rfl,X,Y,W⟩
def NK(s:aJ)(w:aB)(a:s.size<=1000000):
  Calls prog 125 #[.string s] w (Hw w (iy (bl s)) (nB (jY 0 (bl s))) (ls 0 (bl s)) (iH (bl s))):=
 RI s w a _ _ _ _ rfl rfl rfl rfl
end Go.Proofs.YtjfaogajmoffoaaGreatDoor
