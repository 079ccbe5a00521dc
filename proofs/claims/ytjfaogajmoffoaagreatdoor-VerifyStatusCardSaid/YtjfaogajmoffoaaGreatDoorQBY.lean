/- Lemmas for VerifyStatus. -/
import Derived.Test.YtjfaogajmoffoaaGreatDoorQBX
import Derived.Test.YtjfaogajmoffoaaGreatDoorQBU
set_option maxRecDepth 100000
set_option maxHeartbeats 16000000
set_option linter.all false
namespace Go.Proofs.YtjfaogajmoffoaaGreatDoor
open Go.RowKit Tryz
def oH(W:aB)(a:Nat)(e:Int):Prop:=W.heap[a]? =some (.cells #[.int .i64 e] 199)
def oH.gr{W a:aB}{b:Nat}{e:Int}(h:oH W b e)(c:Gr W a):oH a b e:=(c.block (aI h)).trans h
def cQ(e:Int)(a:Bool)(x:Int):Int:=if e=0/\a=true then x else e
def tH(b:Nat)(e':Int)(W:aB)(x:Ending)(a:aB):Prop:=x=.returned (.tuple #[])/\oH a b e'/\W.grownBy a (some b)
def rB(b:Nat)(e:Int)(bad:Bool)(x:Int)(W:aB)(h:oH W b e):Calls prog 155 #[bZ b,.bool bad,.int .i64 x] W (tH b (cQ e bad x) W):=by
 have d:W.cell? (aD b 0)=some (.int .i64 e):=bH (cs:=[.int .i64 e]) h 0;have g:=ee (cs:=[.int .i64 e]) h 0;have H:=aA h;by_cases c:e=0
 .subst c
  cases bad
  .have a:=aA (show cQ 0 false x=0 by unfold cQ;rw[aF (by simp)])
   go_in;go_wp2_with fail;refine pM (fn:=Tryz.f155) rfl rfl ?_;exact⟨rfl,by rw[a.out];exact H,na _ _⟩
  .have a:=aA (show cQ 0 true x=x by unfold cQ;rw[aG ⟨rfl,rfl⟩])
   go_in;go_wp2_with fail;refine pM (fn:=Tryz.f155) rfl rfl ?_;refine⟨rfl,?_,lG _ _ _ _⟩;rw[a.out];show _=_;rw[fC _ b 0 _ _ _ H.out];simp
 .have a:=aA (show cQ e bad x=e by unfold cQ;rw[aF (fun h=>c h.1)])
  have i:(e==0)=false:=dI.2 c;go_in;go_wp2_with fail;refine pM (fn:=Tryz.f155) rfl rfl ?_;exact⟨rfl,by rw[a.out];exact H,na _ _⟩
def Jk(a:Nat)(e:Int)(x:Int)(W:aB)(h:oH W a e):Calls prog 107 #[bZ a,.int .i64 x] W (tH a (cQ e true x) W):=by
 have b:=aA (rB a e true x W h);go_in;go_wp2_with (go_at_call 155;refine b.mono ?_;rintro g i ⟨rfl,c,d⟩);refine pM (fn:=Tryz.f107) rfl rfl ?_;exact⟨rfl,c,d⟩
def gJ(s:aJ):Bool:=!Lib.hasPrefix s.data.toList [32]&&(!Lib.hasSuffix s.data.toList [32]&&!Lib.contains s.data.toList [32,32])
def MS(s:aJ)(w:aB)(g:s.size<=1000000)(d:ff w):Calls prog 189 #[.string s] w fun e w'=>e=.returned (.bool (gJ s))/\w=w':=by
 obtain⟨m,f⟩:=d;have a:Hid (∀W,Calls prog 219 #[.string s,.string ⟨#[32]⟩] W fun e w'=>e=.returned (.bool (Lib.hasPrefix s.data.toList [32]))/\w'=W):=fun W=>Tryz.strings_HasPrefix s ⟨#[32]⟩ W;have b:Hid (∀W,Calls prog 220 #[.string s,.string ⟨#[32]⟩] W fun e w'=>e=.returned (.bool (Lib.hasSuffix s.data.toList [32]))/\w'=W):=fun W=>Tryz.strings_HasSuffix s ⟨#[32]⟩ W (by omega);have c:Hid (Calls prog 221 #[.string s,.string ⟨#[32,32]⟩] w fun e w'=>e=.returned (.bool (Lib.contains s.data.toList [32,32]))/\w'=w):=Tryz.strings_Contains s ⟨#[32,32]⟩ m w (by omega) f;unfold gJ;generalize Lib.hasPrefix s.data.toList [32]=p at*
 generalize Lib.hasSuffix s.data.toList [32]=q at*
 generalize Lib.contains s.data.toList [32,32]=r at*
 cases p<;>cases q
 all_goals
  go_in;go_wp2_with (first
   |(go_at_call 219;refine(a _).mono ?_;rintro e w' ⟨rfl,rfl⟩)
   |(go_at_call 220;refine(b _).mono ?_;rintro e w' ⟨rfl,rfl⟩)
   |(go_at_call 221;refine c.mono ?_;rintro e w' ⟨rfl,rfl⟩))
  go_ret;exact⟨by simp,rfl⟩
def kF(e:Int)(s:aJ)(a:Int):Int:=cQ (cQ (cQ e (decide (a<(s.size:Int))) 5) (!lY (bl s)) 6) (!gJ s) 3
def QZ(b:Nat)(e:Int)(s:aJ)(a:Int)(W:aB)(h:oH W b e)(y:s.size<=1000000)(k:ff W)(i:4 ≠b):Calls prog 156 #[bZ b,.string s,.int .i64 a] W (tH b (kF e s a) W):=by
 have n:=aA (rB b e (decide (a<(s.size:Int))) 5 W h)
 have d:Hid (∀g,W.grownBy g (some b)->ff g):=fun g w=>by
  obtain⟨m,x⟩:=k;exact⟨m,ur w x (by simp;exact fun h=>i h.symm)⟩
 have o:Hid (cQ (cQ (cQ e (decide (a<(s.size:Int))) 5) (!lY (bl s)) 6) (!gJ s) 3=kF e s a):=rfl;go_in;go_wp2_with fail;refine n.mono ?_;rintro C z ⟨rfl,p,t⟩;go_wp2_with fail;refine bA (N8 s z (by omega)) fun B c=>?_;go_wp2_with fail;refine(rB b _ (!lY (bl s)) 6 B (p.gr c)).mono ?_;rintro E l ⟨rfl,q,u⟩;have j:=aA (dG (dG t (dW (row:=some b) c)) u);go_wp2_with fail;refine dK (MS s l y (d _ j)) ?_;go_wp2_with fail;refine(rB b _ (!gJ s) 3 l q).mono ?_;rintro G I ⟨rfl,r,v⟩;go_wp2_with fail;refine pM (fn:=Tryz.f156) rfl rfl ?_;exact⟨rfl,by rw[<-o.out];exact r,dG j v⟩
section
open Go.RowKit Go.Shelf
attribute [local go_sem] Oper.semAt_some
def Ut(s:aJ)(w:aB):
  Calls prog 194 #[.string s] w fun e w'=>e=.returned (.func (.func 225) #[] #[bZ (w.heap.size)])/\w'=w.alloc (.cells #[.string s] 9):=by
 go_in;go_wp2;go_ret;exact⟨rfl,rfl⟩
end
def aS:ByteArray:=⟨#[97]⟩
def zS:ByteArray:=⟨#[48]⟩
section
structure bU where
 name:ByteArray
 author:cE
 date:Int
 groups:Value
 subject:ByteArray
 refs:Value
 sup:Id
 control:ByteArray
 dist:ByteArray
 number:Int
 height:Int
 root:cE
 leaf:Int
 body:ByteArray
def aX(c:bU):bF:=[.string c.name]++(bC c.author++([.int .i64 c.date,c.groups,.string c.subject,c.refs]++(bC c.sup++([.string c.control,.string c.dist,.int .i64 c.number]++(aN c.height c.root++[.int .i64 c.leaf,.string c.body])))))
theorem dO(c:bU):(aX c).length=75:=by simp[aX,a_,bG]
section
variable (c : bU)
theorem wU:dD (aX c) 1 16=bC c.author:=by
 unfold aX;rw[eQ _ _ _ _ 1 rfl (aH rfl),gP _ _ _ (a_ _)]
theorem yZ(k:Nat)(h:17<=k)(a:k<21):(aX c)[k]? =[Value.int .i64 c.date,c.groups,.string c.subject,c.refs][k-17]? :=by
 unfold aX;rw[eY _ _ _ 1 rfl (by omega),eY _ _ _ 16 (a_ _) (by omega),wg,oS (by simp;omega)]
theorem Cn(k:Nat)(h:53<=k)(a:k<56):(aX c)[k]? =[Value.string c.control,.string c.dist,.int .i64 c.number][k-53]? :=by
 unfold aX;rw[eY _ _ _ 1 rfl (by omega),eY _ _ _ 16 (a_ _) (by omega),eY _ _ _ 4 rfl (by omega),eY _ _ _ 32 (a_ _) (by omega),wg,wg,wg,oS (by simp;omega)]
theorem Em:(aX c)[17]? =some (.int .i64 c.date):=yZ c 17 (aH rfl) (aH rfl)
theorem DG:(aX c)[18]? =some c.groups:=yZ c 18 (aH rfl) (aH rfl)
theorem DN:(aX c)[20]? =some c.refs:=yZ c 20 (aH rfl) (aH rfl)
theorem xu:(aX c)[53]? =some (.string c.control):=Cn c 53 (aH rfl) (aH rfl)
theorem FD:dD (aX c) 0 75=aX c:=b_ _ _ (dO c)
theorem acU(h:17<(aX c).length):(aX c)[17]=.int .i64 c.date:=jM (Em c) h
theorem PG(h:18<(aX c).length):(aX c)[18]=c.groups:=jM (DG c) h
theorem Us(h:20<(aX c).length):(aX c)[20]=c.refs:=jM (DN c) h
theorem aaW(h:53<(aX c).length):(aX c)[53]=.string c.control:=jM (xu c) h
theorem DT(a:c.groups.oneCell'=true)(b:c.refs.oneCell'=true):cN (aX c)=true:=by
 rw[aX,iI,iI,iI,iI,iI,iI,uq,uq,zD];simp only[cN,nm,rP,a,b,pW];rfl
end
@[go_sem] theorem agp:dZ prog 46 =true:=by kernel_rfl
@[go_sem] theorem aen:prog.cellsOf 46 =75:=by kernel_rfl
attribute [go_sem] acU PG Us aaW dO wU FD
end
section
section
variable (c : bU)
theorem I3:(aX c)[0]? =some (.string c.name):=rfl
theorem Km:(aX c)[19]? =some (.string c.subject):=yZ c 19 (aH rfl) (aH rfl)
theorem Mm:(aX c)[54]? =some (.string c.dist):=Cn c 54 (aH rfl) (aH rfl)
theorem z':(aX c)[55]? =some (.int .i64 c.number):=Cn c 55 (aH rfl) (aH rfl)
theorem Ha:dD (aX c) 21 32=bC c.sup:=by
 unfold aX;rw[eQ _ _ _ _ 1 rfl (aH rfl),eQ _ _ _ _ 16 (a_ _) (aH rfl),eQ _ _ _ _ 4 rfl (aH rfl),gP _ _ _ (a_ _)]
theorem CY:dD (aX c) 56 17=aN c.height c.root:=by
 unfold aX;rw[eQ _ _ _ _ 1 rfl (aH rfl),eQ _ _ _ _ 16 (a_ _) (aH rfl),eQ _ _ _ _ 4 rfl (aH rfl),eQ _ _ _ _ 32 (a_ _) (aH rfl),eQ _ _ _ _ 3 rfl (aH rfl),gP _ _ _ (bG _ _)]
theorem Ii(k:Nat)(h:73<=k):(aX c)[k]? =[Value.int .i64 c.leaf,.string c.body][k-73]? :=by
 unfold aX;rw[eY _ _ _ 1 rfl (by omega),eY _ _ _ 16 (a_ _) (by omega),eY _ _ _ 4 rfl (by omega),eY _ _ _ 32 (a_ _) (by omega),eY _ _ _ 3 rfl (by omega),eY _ _ _ 17 (bG _ _) (by omega)];congr 1
theorem Ce:(aX c)[73]? =some (.int .i64 c.leaf):=Ii c 73 (aH rfl)
theorem GF:(aX c)[74]? =some (.string c.body):=Ii c 74 (aH rfl)
end
@[go_sem] theorem aft (c:bU) (h:0<(aX c).length):(aX c)[0]=.string c.name:=rfl
structure nS(W:aB)(b:Nat)(c:bU):Prop where
 name:W.cell? (aD b 0)=some (.string c.name)
 au0:hasRow W (aD b 1) 16=true
 au1:rowAt W (aD b 1) 16=bC c.author
 date:W.cell? (aD b 17)=some (.int .i64 c.date)
 groups:W.cell? (aD b 18)=some c.groups
 subject:W.cell? (aD b 19)=some (.string c.subject)
 refs:W.cell? (aD b 20)=some c.refs
 su0:hasRow W (aD b 21) 32=true
 su1:rowAt W (aD b 21) 32=bC c.sup
 control:W.cell? (aD b 53)=some (.string c.control)
 dist:W.cell? (aD b 54)=some (.string c.dist)
 number:W.cell? (aD b 55)=some (.int .i64 c.number)
 pu0:hasRow W (aD b 56) 17=true
 pu1:rowAt W (aD b 56) 17=aN c.height c.root
 leaf:W.cell? (aD b 73)=some (.int .i64 c.leaf)
 body:W.cell? (aD b 74)=some (.string c.body)
 w0:hasRow W (aD b 0) 75=true
 w1:rowAt W (aD b 0) 75=aX c
 z:b<W.heap.size
theorem jz{W:aB}{b:Nat}{c:bU}(h:HB W b (aX c) 46):nS W b c:=
 ⟨(bH h 0).trans (I3 _),aP h 1 16 (by rw[dO];decide),(bJ h 1 16 (by rw[dO];decide)).trans (wU _),(bH h 17).trans (Em _),(bH h 18).trans (DG _),(bH h 19).trans (Km _),(bH h 20).trans (DN _),aP h 21 32 (by rw[dO];decide),(bJ h 21 32 (by rw[dO];decide)).trans (Ha _),(bH h 53).trans (xu _),(bH h 54).trans (Mm _),(bH h 55).trans (z' _),aP h 56 17 (by rw[dO];decide),(bJ h 56 17 (by rw[dO];decide)).trans (CY _),(bH h 73).trans (Ce _),(bH h 74).trans (GF _),aP h 0 75 (by rw[dO];decide),(bJ h 0 75 (by rw[dO];decide)).trans (FD _),aI h⟩
def eS:ByteArray:=⟨#[]⟩
def gh(a r:aK)(s:aJ)(g c:Nat):bU:=⟨eS,a,0,aR g 0 1 c,s,.slice none 0 0,bM,eS,eS,0,1,r,0,eS⟩
theorem N'(a r:aK)(s:aJ)(g c:Nat):cN (aX (gh a r s g c))=true:=DT _ rfl rfl
theorem Le(s:aJ)(a:Int)(b:lY (bl s)=true)(c:gJ s=true)(d:(s.size:Int)<=a):kF 0 s a=0:=by
 unfold kF cQ;rw[b,c,show decide (a<(s.size:Int))=false from eL (by omega)];simp
theorem Il(e:Int)(x:Int):cQ e false x=e:=by unfold cQ;rw[aF (by simp)]
theorem Vu(b:Bool):cQ 0 b 0=0:=by unfold cQ;split<;>rfl
theorem Od:lY (bl eS)=true:=by decide+kernel
theorem YD:gJ eS=true:=by decide+kernel
end
def FZ(r:aK):ByteArray:=zS++⟨#[32]⟩++bs (mO 1 r)
def sizeBuilder:(prog.info? 207).map (·.size)=some 2:=by kernel_rfl
def liesBuilder:liesAt prog prog.depth 207 (2/prog.cellsOf 207) 0 207 1=true:=by kernel_rfl
def infoByte:(prog.info? 5).map (fun i=>(i.zero,i.size,i.bytes))=some (some (.int .u8 0),1,1):=by kernel_rfl
def adB(b:Nat)(w:aB)(c:w.cell? (aD b 0)=some (bZ b)):
  Calls prog 168 #[bZ b] w fun e w'=>e=.returned (.tuple #[])/\w'=w:=by
 obtain⟨j,a,_⟩:=o4.1 sizeBuilder;go_in;go_wp2;rw[Lib.run_neq_ptr_same w _ underlying205 a];go_wp2
 go_end0
 exact⟨rfl,rfl⟩
def Wt(b:Nat)(w:aB)(g:w.cell? (aD b 0)=some (.pointer none))(a:w.shape? b=some (207,2))(f:w.frozen? (aD b 0)=false):
  Calls prog 168 #[bZ b] w fun e w'=>e=.returned (.tuple #[])/\w'=w.setCell (aD b 0) (bZ b):=by
 obtain⟨j,d,c⟩:=o4.1 sizeBuilder;go_in;go_wp2;rw[Lib.run_to_unsafe w (aD b 0) underlying205 underlying302 d (by rw[c];decide) a (Nat.zero_lt_succ 1)];simp only[Result.andThen];rw[yY];go_wp2;rw[run_callFunc_extern func202 (by kernel_rfl) (by kernel_rfl) (by kernel_rfl) (e:=Extern.AbiNoEscape.same) (by kernel_rfl)];rw[Lib.run_noEscape];simp only[Result.andThen];rw[yY];go_wp2;rw[Lib.run_from_unsafe w (aD b 0) underlying302 underlying205 d a liesBuilder];simp only[Result.andThen];rw[yY];go_wp2
 go_end0
 exact⟨rfl,rfl⟩
def acL(B b:Nat)(a:bF)(w:aB)(h:Lib.IsBuilder 207 5 B b a w):
  Calls prog 168 #[bZ b] w fun e w'=>e=.returned (.tuple #[])/\(Lib.BuilderAt 207 5 B b (bZ b) a w'/\Below B w w'):=by
 rcases h with h|h
 .refine(Wt b w h.cell0 h.shape h.frozen0).mono ?_
  rintro e w' ⟨rfl,rfl⟩;exact⟨rfl,h.used _,(tI B w).setCell (p:=⟨b,0,none⟩) h.1 _⟩
 .refine(adB b w h.cell0).mono ?_
  rintro e w' ⟨rfl,rfl⟩;exact⟨rfl,h,tI B _⟩
def XF(B b:Nat)(m:bF)(s:aJ)(w:aB)(h:Lib.IsBuilder 207 5 B b m w)(E:m.length+s.size<=140737488355328)(I:B<=w.heap.size):
  Calls prog 115 #[bZ b,.string s] w fun e w'=>e=.returned (.tuple #[.int .i64 s.size,.nilIface])/\(Lib.BuilderAt 207 5 B b (bZ b) (m++Lib.strCells s) w'/\Below B w w'):=by
 obtain⟨K,hi,t,u,x⟩:=Az infoByte;go_in;go_wp2_with (go_at_call 168;refine(acL B b m _ h).mono ?_);rintro e y ⟨rfl,H,i⟩;obtain⟨D,v,l,d,q⟩:=H
 have M:y.cell? (aD b 1)=some v:=by rw[Mt l];rfl
 go_wp2_with (at_builtin;refine Lib.wpList_append_own_string _ rfl _ _ 94 9 rfl B 5 K underlying94 underlying9 hi t u x _ _ _ rfl d s rfl ?c3 ?c4 ?c5 ?_)
 case c3=>unfold maxLen;omega
 case c4=>omega
 case c5=>have:=i.size;omega
 intro L z c a _;have o:b<y.heap.size:=by
  rcases th b y.heap.size with n|n
  .exact n
  .simp[x_ n]at l
 have j:z.heap[b]? =some (.cells #[bZ b,v] 207):=by
  rw[a.block b o (fun e=>q e.symm)];exact l
 have N:z.cell? (aD b 1)=some v:=by rw[Mt j];rfl
 have O:z.frozen? (aD b 1)=false:=Lib.frozen_of_heap j 1;obtain⟨C,F,f,rfl⟩:∃C F f,L=.slice C F f:=by
  rcases c.2 with⟨r,_⟩|⟨g,f,G,r,_⟩
  .exact⟨_,_,_,r⟩
  .exact⟨_,_,_,r⟩
 go_wp2;go_ret2;refine⟨rfl,?_,?_⟩
 .exact Lib.BuilderAt.put (T:=207) (e:=5) D j (bs':=m++Lib.strCells s) (by simpa[Lib.strCells_length]using c) (aH rfl)
 .exact(i.grown a (by have:=i.size;omega) (fun k J=>(d.lt k J).1)).setCell (p:=⟨b,1,none⟩) D _
def IsBuilder.gr{w w':aB}(i:Gr w w'){B b:Nat}{d:bF}(h:Lib.IsBuilder 207 5 B b d w):Lib.IsBuilder 207 5 B b d w':=by
 have c:∀p,Lib.BuilderAt 207 5 B b p d w->Lib.BuilderAt 207 5 B b p d w':=by
  intro p h;have f:=h.lt;obtain⟨j,v,e,a,g⟩:=h;exact⟨j,v,by rw[ma i b f];exact e,mM a i.grownBy (by cases v.ownBlock<;>simp),g⟩
 rcases h with h|h
 .exact .inl (c _ h)
 .exact .inr (c _ h)
def Tm(s:aJ):Lib.strCells s=Lib.byteCells (bl s):=rfl
def og(W:aB)(B b:Nat)(l:aM):Prop:=Lib.IsBuilder 207 5 B b (Lib.byteCells l) W
def og.gr{W a:aB}{B b:Nat}{l:aM}(h:og W B b l)(c:Gr W a):og a B b l:=IsBuilder.gr c h
def aaH(B b:Nat)(l:aM)(s:aJ)(w:aB)(h:og w B b l)(d:l.length+s.size<=1000000)(a:B<=w.heap.size):
  Calls prog 115 #[bZ b,.string s] w fun e w'=>e=.returned (.tuple #[.int .i64 s.size,.nilIface])/\og w' B b (l++bl s)/\Below B w w':=
 (XF B b (Lib.byteCells l) s w h (by rw[Lib.byteCells_length];omega) a).mono fun e w' ⟨f,c,g⟩=>⟨f,.inr (by
  rw[Tm]at c;have e:Lib.byteCells (l++bl s)=Lib.byteCells l++Lib.byteCells (bl s):=by unfold Lib.byteCells;simp
  rw[e];exact c),g⟩
def Wn(B b:Nat)(l:aM)(w:aB)(h:og w B b l)(a:B<=w.heap.size):Calls prog 116 #[bZ b] w fun e w'=>e=.returned (.string (bs l))/\Below B w w':=
 Tryz.Builder_String_any B b l w h a
def og.new(w:aB)(b:Nat)(a:b=w.heap.size):og (w.alloc (.cells #[.pointer none,.slice none 0 0] 207)) b b []:=
 .inl ⟨aU _,.slice none 0 0,aY _ _ _ a,⟨rfl,.inl ⟨rfl,rfl⟩⟩,by simp[Value.ownBlock]⟩
end Go.Proofs.YtjfaogajmoffoaaGreatDoor
