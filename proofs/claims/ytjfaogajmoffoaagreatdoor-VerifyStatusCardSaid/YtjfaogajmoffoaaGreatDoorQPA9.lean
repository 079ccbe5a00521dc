/- Lemmas for VerifyStatus. -/
import Derived.Test.YtjfaogajmoffoaaGreatDoorQPA8
set_option maxRecDepth 100000
set_option maxHeartbeats 16000000
set_option linter.all false
namespace Go.Proofs.YtjfaogajmoffoaaGreatDoor
open Go.RowKit Tryz
def sL(id:Id)(c:bU)(a:me c.number)(h:Int)(r:aK):Rl:=⟨id,⟨c.author,c.number,a⟩,c.height,c.root,c.leaf,h,r⟩
def vL(L:List Rl)(id:Id)(c:bU)(d:Cm):Int:=
 if d.kind≠5 then 11 else if c.number<0 then 2 else if 1000<=c.number then 2 else if d.number≠c.number+1 then 30
 else if cH c.height≠0 then 18 else if cH d.height≠0 then 18 else if iN c.height c.root d.height d.root=true then 18
 else if c.leaf<0 then 18 else if 2^c.height.toNat<=c.leaf then 18
 else if c.number=0/\jG c.author c.height c.root=false then 20 else if jw L id=true then 7 else 0
structure Lf(V:aB)(n:Nat)(id:Id)(c:bU)(d:Cm):Prop where
 i0:hasRow V (aD n 0) 32=true
 i1:rowAt V (aD n 0) 32=bC id
 c0:V.cell? (aD (n+1) 55)=some (.int .i64 c.number)
 c1:hasRow V (aD (n+1) 1) 16=true
 c2:rowAt V (aD (n+1) 1) 16=bC c.author
 c3:hasRow V (aD (n+1) 56) 17=true
 c4:rowAt V (aD (n+1) 56) 17=aN c.height c.root
 c5:V.cell? (aD (n+1) 56)=some (.int .i64 c.height)
 c6:V.cell? (aD (n+1) 73)=some (.int .i64 c.leaf)
 d0:V.cell? (aD (n+1+1) 0)=some (.int .i64 d.kind)
 d1:V.cell? (aD (n+1+1) 38)=some (.int .i64 d.number)
 d2:hasRow V (aD (n+1+1) 39) 17=true
 d3:rowAt V (aD (n+1+1) 39) 17=aN d.height d.root
 z0:n<V.heap.size
 z1:n+1<V.heap.size
 z2:n+1+1<V.heap.size
def YE(c:bU):(aX c)[56]? =some (.int .i64 c.height):=by
 unfold aX;show(bC c.author++_)[55]? =_
 rw[eY (bC c.author) _ 55 16 (aO _) (aH rfl)];show(bC c.sup++_)[35]? =_
 rw[eY (bC c.sup) _ 35 32 (cC _) (aH rfl)];rfl
def Oh{V:aB}{n:Nat}{id:Id}{c:bU}{d:Cm}{v:Value}(j:HB V n (bC id) 26) (a:HB V (n+1) (aX c) 46) (k:HB V (n+1+1) (aL d v) 87):Lf V n id c d:=by
 obtain⟨l,m,o⟩:=dL 32 (cC id) j;have f:=jz a;obtain⟨b,-,-,-,-,-,e,-,-,-,g,h,-,-,-,-,i⟩:=iX k;exact⟨l,m,f.number,f.au0,f.au1,f.pu0,f.pu1,(bH a 56).trans (YE c),f.leaf,b,e,g,h,o,f.z,i⟩
def Wz(base x B C:Nat)(L:List Rl)(id:Id)(c:bU)(d:Cm)(v:Value)(F:me c.number)(w:aB)(D:Rg w base x B C L)(hK:Kt w)(hL:L.length<=900):
  Calls prog 26 #[bZ x,aE (bC id),aE (aX c),aE (aL d v)] w fun e w'=>e=.returned (.int .i64 (vL L id c d))/\Rg w' base x B C (if vL L id c d=0 then L++[sL id c F d.height d.root]else L)/\Below base w w':=by
 obtain⟨n,hn⟩:=ex w.heap.size;obtain⟨u,hU,z,H0,H1,H2⟩:=jP hn (aC (bC id) 26) (aC (aX c) 46) (aC (aL d v) 87)
 have KX:Hid (∀V,Gr u V->Lf V n id c d):=fun V b=>Oh ((b.block (aI H0)).trans H0) ((b.block (aI H1)).trans H1) ((b.block (aI H2)).trans H2);have E:base<=w.heap.size:=eu D.hx (pz (aI D.hb));have f:Hid (∀V,Gr u V->Rg V base x B C L/\Below base w V):=fun V b=>⟨D.gr (z.trans b),z_ E (z.trans b)⟩;have a4:Hid (∀V,CG 30 #[aE (aN c.height c.root)] V (.int .i64 (cH c.height))):=fun V=>pf _ _ V;have a5:Hid (∀V,CG 30 #[aE (aN d.height d.root)] V (.int .i64 (cH d.height))):=fun V=>pf _ _ V;have a1:Hid (∀V,Gr u V->CG 53 #[aE (bC c.author),aE (aN c.height c.root)] V (.bool (jG c.author c.height c.root))):=fun V b=>LK _ _ _ V (hK.gr (z.trans b));have J:Hid (∀V,Gr u V->CG 54 #[bZ x,aE (bC id)] V (.bool (jw L id))):=fun V b=>Ys base x B C L id V (D.gr (z.trans b));have K:Hid (∀V,Gr u V->Calls prog 55 #[bZ x] V fun e w'=>e=.returned (.int .i64 (L.length:Int))/\V=w'):=fun V b=>TZ base x B C L V (D.gr (z.trans b));have a2:Hid (jw L id=false->∀V,Gr u V->Calls prog 56 #[bZ x,aE (bC id++(ef c.author c.number++(aN c.height c.root++(.int .i64 c.leaf::aN d.height d.root))))] V fun e w'=>e=.returned (.tuple #[])/\Rg w' base x B C (L++[sL id c F d.height d.root])/\Below base w w'):=fun aa V b=>(Zd base x B C L (sL id c F d.height d.root) V (D.gr (z.trans b)) hL aa).mono fun e w' ⟨y,h2,h3⟩=>⟨y,h2,(z_ E (z.trans b)).trans h3⟩;have a:Hid (vL L id c d=if d.kind≠5 then 11 else if c.number<0 then 2 else if 1000<=c.number then 2 else if d.number≠c.number+1 then 30
 else if cH c.height≠0 then 18 else if cH d.height≠0 then 18 else if iN c.height c.root d.height d.root=true then 18
 else if c.leaf<0 then 18 else if 2^c.height.toNat<=c.leaf then 18
 else if c.number=0/\jG c.author c.height c.root=false then 20 else if jw L id=true then 7 else 0):=rfl
 have a3:Hid (L.length<=900):=hL;have HU:=aA hU;clear D hK hL E H0 H1 H2;by_cases y:d.kind=5;rotate_left
 focus
  have a6:(d.kind != 5)=true:=by simp[y]
  rw[a.out,aG y]
 rotate_right
 have a6:(d.kind != 5)=false:=by simp[y]
 rw[aF (fun q=>q y)]at a;replace y:=aA y;by_cases h2:c.number<0
 focus
  rw[a.out,aG h2]
 rotate_left;rw[aF h2]at a;by_cases h3:1000<=c.number
 focus
  rw[a.out,aG h3]
 rotate_left;rw[aF h3]at a;have e1:IntKind.i64.wrap (c.number+1)=c.number+1:=by rw[cV];omega
 by_cases H:d.number=c.number+1;rotate_left
 focus
  have a7:(d.number != c.number+1)=true:=by simp[H]
  rw[a.out,aG H]
 rotate_right
 have a7:(d.number != c.number+1)=false:=by simp[H]
 rw[aF (fun q=>q H)]at a;replace H:=aA H
 have I:Hid (cH c.height=0->1<=c.height/\c.height<=8):=fun hh=>by
  unfold cH at hh;by_cases k:c.height<1\/8<c.height
  .rw[aG k]at hh;cases hh
  .omega
 generalize cH c.height=z1 at*
 generalize cH d.height=z2 at*
 by_cases h5:z1=0;rotate_left
 focus
  have ad:(z1 != 0)=true:=by simp[h5]
  rw[a.out,aG h5]
 rotate_right
 subst h5;rw[aF (fun q=>q rfl)]at a;by_cases h6:z2=0;rotate_left
 focus
  have ae:(z2 != 0)=true:=by simp[h6]
  rw[a.out,aG h6]
 rotate_right
 subst h6;rw[aF (fun q=>q rfl)]at a;generalize ag:iN c.height c.root d.height d.root=pe at*
 cases pe
 rotate_left
 focus
  rw[a.out,aG rfl]
 rotate_right
 rw[aF (aH rfl)]at a;have ac:=I rfl;obtain⟨N,hN⟩:∃N:Nat,c.height=(N:Int):=⟨c.height.toNat,by omega⟩
 have i3:c.height.toNat=N:=by omega
 obtain⟨Q,hQ⟩:∃Q:Nat,2^N=Q:=⟨_,rfl⟩;have a9:(2:Int)^N=(Q:Int):=by rw[<-hQ];simp
 have M:Q<=256:=by
  rw[<-hQ];have h:∀N:Fin 9,2^N.val<=256:=by decide+kernel
  exact h ⟨N,by omega⟩
 have af:IntKind.i64.wrap (Q:Int)=(Q:Int):=pA Q (xh M (aH rfl));rw[i3,a9]at a;clear hN hQ I M;by_cases h7:c.leaf<0
 focus
  rw[a.out,aG h7]
 rotate_left;rw[aF h7]at a;by_cases h8:(Q:Int)<=c.leaf
 focus
  rw[a.out,aG h8]
 rotate_left;rw[aF h8]at a;by_cases h:c.number=0
 focus
  have a8:(c.number==0)=true:=by simp[h]
  generalize O:jG c.author c.height c.root=fb at*
  replace O:=aA O
  cases fb
  focus
   rw[a.out,aG ⟨h,rfl⟩];replace h:=aA h
  rotate_left;rw[aF (fun q=>by cases q.2)]at a;replace h:=aA h
  cases hha:jw L id
 rotate_left 3
 focus
  have a8:(c.number==0)=false:=dI.2 h;rw[aF (fun q=>h q.1)]at a;replace h:=aA h
  cases hha:jw L id
 all_goals
  try
   rw[hha]at a J;rw[a.out];obtain⟨ab,i⟩:=ex (L.length:Int);have l9:¬(65536:Int)<=ab:=by have:=a3.out;omega
   rw[i]at K;replace i:=aA i;replace hha:=aA hha
  obtain⟨P,R,S,T,U,X,Y,Z,k9,j,l,m,o,p,r,s⟩:=KX.out u (Gr.refl u);have G:=aA (Gr.refl u);go_in;go_wp2_with fail;try rw[HU.out]
  repeat
   first
   |(first
     |with_reducible refine(a4.out _).mono ?_
     |with_reducible refine(a5.out _).mono ?_
     |with_reducible refine(a1.out _ G.out).mono ?_
     |with_reducible refine(J.out _ G.out).mono ?_
     rintro _ W ⟨rfl,g⟩;replace G:=aA (G.trans g);clear g P R S T U X Y Z k9 j l m o p r s;obtain⟨P,R,S,T,U,X,Y,Z,k9,j,l,m,o,p,r,s⟩:=KX.out W G.out;go_wp2_with fail)
   |(with_reducible refine(K.out _ G.out).mono ?_
     rintro _ _ ⟨rfl,rfl⟩;go_wp2_with fail)
   |(with_reducible refine(a2.out hha.out _ G.out).mono ?_
     rintro _ W ⟨rfl,t,g⟩;replace G:=aA g;replace t:=aA t;clear P R S T U X Y Z k9 j l m o p r s g;go_wp2_with fail)
   |(go_quiet (fail)
     replace G:=aA (G.drewN nq);clear P R S T U X Y Z k9 j l m o p r s;generalize W.drewN nq=W at*
     obtain⟨P,R,S,T,U,X,Y,Z,k9,j,l,m,o,p,r,s⟩:=KX.out W G.out;go_wp2_with fail)
  go_ret;first
  |exact⟨rfl,(f _ G).1,(f _ G).2⟩
  |exact⟨rfl,by rw[aF (aH rfl)];exact(f _ G).1,(f _ G).2⟩
  |exact⟨rfl,t,G⟩
  |exact⟨rfl,by rw[aG rfl];exact t,G⟩
def Sf(x:UInt32)(n:Nat)(d:0<n)(a:n<32)(w:aB):Calls prog 85 #[.int .u32 (nW x),.int .i64 (n:Int)] w fun e w'=>e=.returned (.int .u32 (nW (rr x (UInt32.ofNat n) (UInt32.ofNat (32-n)))))/\∃k,w'=w.drewN k:=by
 obtain⟨m,b⟩:=ex (32-n);have f:IntKind.i64.wrap (32-(n:Int))=(m:Int):=by rw[cV];omega
 have g:=xJ x m (by omega);have h:=vR x n a
 have i:(m:Int)<=32:=by omega
 have j:=nn n
 have l:(n:Int)<=32:=by omega
 have c:Hid (x>>>UInt32.ofNat n|||x<<<UInt32.ofNat m=rr x (UInt32.ofNat n) (UInt32.ofNat m)):=rfl;rw[b];go_in;go_wp2_with fail
 go_quiet (fail)
 go_wp2_with fail;go_ret;exact⟨by rw[<-c.out];rfl,_,rfl⟩
def V9(x:UInt32)(n:Int)(w:aB)(a:0<n)(b:n<32):Calls prog 85 #[.int .u32 (nW x),.int .i64 n] w fun e w'=>e=.returned (.int .u32 (nW (rI x n)))/\∃k,w'=w.drewN k:=by
 obtain⟨k,rfl⟩:∃k:Nat,n=(k:Int):=⟨n.toNat,by omega⟩;exact Sf x k (by omega) (by omega) w
end Go.Proofs.YtjfaogajmoffoaaGreatDoor
