/- Lemmas for VerifyStatus. -/
import Derived.Test.YtjfaogajmoffoaaGreatDoorQBW
import Derived.Test.YtjfaogajmoffoaaGreatDoorQBI
import Derived.Test.YtjfaogajmoffoaaGreatDoorQPA7
set_option maxRecDepth 100000
set_option maxHeartbeats 16000000
set_option linter.all false
namespace Go.Proofs.YtjfaogajmoffoaaGreatDoor
open Go.RowKit Tryz
section
open Go.RowKit Go.Shelf
attribute [local go_sem] Oper.semAt_some
def YP(c:UInt8)(w:aB):Calls prog 130 #[.int .u8 (c.toNat:Int)] w fun e w'=>e=.returned (.bool (decide (97<=(c.toNat:Int))&&decide ((c.toNat:Int)<=122)))/\w=w':=by
 go_in;go_wp2;all_goals
  go_ret;refine⟨eU ?_,rfl⟩;simp<;>omega
def abe(c:UInt8)(w:aB):Calls prog 131 #[.int .u8 (c.toNat:Int)] w fun e w'=>e=.returned (.bool (decide (48<=(c.toNat:Int))&&decide ((c.toNat:Int)<=57)))/\w=w':=by
 go_in;go_wp2;all_goals
  go_ret;refine⟨eU ?_,rfl⟩;simp<;>omega
def aam(k:bU)(w:aB):Calls prog 73 #[.int .i64 k.date] w fun e w'=>e=.returned (.bool (!mG k))/\w=w':=by
 have a:Hid (mG k=(decide (k.date<0)||decide (105190559<k.date))):=rfl;rw[a.out];generalize k.date=d at*
 go_in;go_wp2;all_goals
  go_ret;refine⟨eU ?_,rfl⟩;first|rfl|(rw[kE];simp<;>omega)|(simp<;>omega)
def L4(r:Int)(w:aB):Calls prog 126 #[.int .i64 r] w fun e w'=>e=.returned (.bool (hJ r))/\w=w':=by
 go_in;go_wp2;all_goals
  go_ret;refine⟨eU ?_,rfl⟩;rw[kE,Dl];simp<;>omega
def yM(l:aM)(i:Nat):Prop:=l[i]? =some 32/\(i=0\/i+1=l.length\/l[i+1]? =some 32)
def E9(l:aM):Lib.hasPrefix l [32]=decide (l[0]? =some 32):=by
 unfold Lib.hasPrefix
 cases l with
 |nil=>rfl
 |cons x l=>
  by_cases h:x=32
  .subst h;simp[List.isPrefixOf]
  .have a:((32:UInt8)==x)=false:=dI.2 fun e=>h e.symm
   simp[List.isPrefixOf,h,a]
def Ig(l:aM):Lib.hasSuffix l [32]=decide (l[l.length-1]? =some 32/\l≠[]):=by
 unfold Lib.hasSuffix;rw[kE];show([32]:aM).reverse.isPrefixOf l.reverse=true↔_;rw[List.reverse_singleton];have h:=E9 l.reverse;unfold Lib.hasPrefix at h;rw[h];simp only[iK]
 cases hl:l with
 |nil=>simp
 |cons x t=>
  rw[List.getElem?_reverse (by simp)];simp
def IL(l:aM)(i:Nat):Lib.occAt l [32,32] i=true↔l[i]? =some 32/\l[i+1]? =some 32:=by
 unfold Lib.occAt;have c:(l.drop i)[0]? =l[i]? :=by rw[kM];rfl
 have d:(l.drop i)[1]? =l[i+1]? :=by rw[kM]
 rw[<-c,<-d];generalize l.drop i=m
 cases m with
 |nil=>simp
 |cons x m=>
  cases m with
  |nil=>simp
  |cons y m=>
   by_cases h:x=32
   .subst h
    by_cases b:y=32
    .subst b;simp[List.isPrefixOf]
    .have a:((32:UInt8)==y)=false:=dI.2 fun e=>b e.symm
     simp[List.isPrefixOf,b,a]
   .have a:((32:UInt8)==x)=false:=dI.2 fun e=>h e.symm
    simp[List.isPrefixOf,h,a]
def Hf(l:aM):Lib.contains l [32,32]=true↔∃i:Nat,l[i]? =some 32/\l[i+1]? =some 32:=by
 unfold Lib.contains;rcases Lib.index_spec l [32,32]with⟨h1,h2⟩|⟨i,h1,h2,h3,_⟩
 .rw[h1]
  constructor
  .intro h;simp at h
  .rintro⟨i,hi⟩
   have a:i<l.length:=by
    rcases th i l.length with q|q
    .exact q
    .rw[kZ q]at hi;cases hi.1
   have:=h2 i (by omega);rw[(IL l i).2 hi]at this;cases this
 .rw[h1]
  constructor
  .intro _;exact⟨i,(IL l i).1 h3⟩
  .intro _;simp
def Zo{s:aJ}{i:Nat}(h:yM (bl s) i):gJ s=false:=by
 obtain⟨h1,a⟩:=h;unfold gJ;rw[show s.data.toList=bl s from rfl];rcases a with rfl|a|a
 .rw[E9,fm h1];rfl
 .have:Lib.hasSuffix (bl s) [32]=true:=by
   rw[Ig];exact fm ⟨by rw[show(bl s).length-1=i by omega];exact h1,fun e=>by rw[e]at h1;cases h1⟩
  rw[this];simp
 .rw[(Hf (bl s)).2 ⟨i,h1,a⟩];simp
def Xx{s:aJ}(h:∀i,¬yM (bl s) i):gJ s=true:=by
 unfold gJ;rw[show s.data.toList=bl s from rfl];have c:Lib.hasPrefix (bl s) [32]=false:=by
  rw[E9];exact eL fun q=>h 0 ⟨q,.inl rfl⟩
 have d:Lib.hasSuffix (bl s) [32]=false:=by
  rw[Ig];refine eL fun q=>h ((bl s).length-1) ⟨q.1,.inr (.inl ?_)⟩;have:=rd.2 q.2;omega
 have e:Lib.contains (bl s) [32,32]=false:=by
  cases hc:Lib.contains (bl s) [32,32]with
  |false=>rfl
  |true=>
   obtain⟨i,a,b⟩:=(Hf _).1 hc;exact absurd ⟨a,.inr (.inr b)⟩ (h i)
 rw[c,d,e];rfl
def DA(s:aJ)(k:Nat)(h:k<s.size):(bl s)[k]? =some s[k]:=by
 rw[cO (by rw[bN];exact h)];rfl
def VP(s:aJ)(k:Nat)(h:k<s.size):(bl s)[k]? =some 32↔s[k].toNat=32:=by
 rw[DA s k h];constructor
 .intro e;rw[iP e];rfl
 .intro e;congr 1;exact lP.1 e
def Ja(s:aJ)(w:aB)(hs:s.size<=1000000):Calls prog 127 #[.string s] w fun e w'=>e=.returned (.bool (gJ s))/\w=w':=by
 have HB:=Lib.hid (fun i=>@Zo s i);have HGD:=Lib.hid (@Xx s);have HBL:=Lib.hid (VP s);have HLN:=Lib.hid (bN s);go_in;go_wp2_with fail
 go_loopw [3] (fun j wr=>∃k:Nat,k<=s.size/\j=.int .i64 (k:Int)/\Hid (∀i,i<k->¬yM (bl s) i)/\wr=w) (fun j _=>s.size-(intOf j).toNat)
 .exact⟨0,Nat.zero_le _,rfl,fun i hi=>absurd hi (Nat.not_lt_zero _),rfl⟩
 .
  obtain⟨k,hk,rfl,hA,rfl⟩:=hrel;by_cases hlt:k<s.size
  .have q1:(k:Int)<(s.size:Int):=by omega
   have q2:(0:Int)<=(k:Int):=by omega
   have q5:IntKind.i64.wrap ((s.size:Int)-1)=((s.size-1:Nat):Int):=by rw[IntKind.wrap_i64];omega
   have hb:=HBL k hlt
   have HNX:Hid (¬yM (bl s) k->∀i,i<k+1->¬yM (bl s) i):=fun h i hi=>by
    by_cases e:i=k
    .rw[e];exact h
    .exact hA i (by omega)
   by_cases h32:s[k].toNat=32
   .have e1:((s[k].toNat:Int)==32)=true:=by simp;omega
    by_cases hk0:k=0
    .have hf:Hid (gJ s=false):=HB k ⟨hb.2 h32,.inl hk0⟩
     have e2:((k:Int)==0)=true:=by simp;omega
     have q6:(0:Int)<=(k:Int)+1:=by omega
     clear hb HNX;replace hk0:=Lib.hid hk0;go_wp2_with fail;go_ret;exact⟨eU hf.symm,rfl⟩
    .have e2:((k:Int)==0)=false:=by simp;omega
     by_cases hke:k+1=s.size
     .have hf:Hid (gJ s=false):=HB k ⟨hb.2 h32,.inr (.inl (by rw[HLN.out];exact hke))⟩
      have e3:((k:Int)==((s.size-1:Nat):Int))=true:=by simp;omega
      clear hb HNX;replace hke:=Lib.hid hke;go_wp2_with fail;go_ret;exact⟨eU hf.symm,rfl⟩
     .have hlt2:k+1<s.size:=by omega
      have e3:((k:Int)==((s.size-1:Nat):Int))=false:=by simp;omega
      have hb2:=HBL (k+1) hlt2;have q6:(0:Int)<=(k:Int)+1:=by omega
      have q7:(k:Int)+1<(s.size:Int):=by omega
      have q8:((k:Int)+1).toNat=k+1:=by omega
      by_cases h33:s[k+1].toNat=32
      .have hf:Hid (gJ s=false):=HB k ⟨hb.2 h32,.inr (.inr (hb2.2 h33))⟩
       have e4:((s[k+1].toNat:Int)==32)=true:=by simp;omega
       clear hb hb2 HNX;go_wp2_with fail;go_ret;exact⟨eU hf.symm,rfl⟩
      .have e4:((s[k+1].toNat:Int)==32)=false:=by simp;omega
       have HN2:=Lib.hid (HNX (fun q=>by
        rcases q.2 with r|r|r
        .exact hk0 r
        .rw[HLN.out]at r;exact hke r
        .exact h33 (hb2.1 r)))
       clear hb hb2 HNX;go_wp2_with fail;go_roundw
       .exact⟨k+1,by omega,by go_num,HN2,by trivial⟩
       .simp[intOf];omega
   .have e1:((s[k].toNat:Int)==32)=false:=by simp;omega
    have HN2:=Lib.hid (HNX (fun q=>h32 (hb.1 q.1)));clear hb HNX;go_wp2_with fail;go_roundw
    .exact⟨k+1,by omega,by go_num,HN2,by trivial⟩
    .simp[intOf];omega
  .have q1:¬(k:Int)<(s.size:Int):=by omega
   have hf:Hid (gJ s=true):=HGD (fun i q=>by
    by_cases hi:i<k
    .exact hA i hi q
    .have:=q.1
     rw[List.getElem?_eq_none (by rw[HLN.out];omega)]at this;cases this)
   go_wp2_with fail;go_ret;exact⟨eU hf.symm,rfl⟩
def sU(s:aJ):Int:=if 20<s.size then 5 else if(bl s).any jh=true then 6 else 0
def UA(s:aJ)(w:aB):Calls prog 78 #[.string s] w fun e w'=>e=.returned (.int .i64 (sU s))/\w=w':=by
 by_cases h20:20<s.size
 .have hf:Hid (sU s=5):=if_pos h20
  have i1:(20:Int)<(s.size:Int):=by omega
  rw[hf.out];go_in;go_wp2_with fail;go_ret;exact⟨rfl,rfl⟩
 .have hf:Hid (sU s=if(bl s).any jh=true then 6 else 0):=if_neg h20
  have i1:¬(20:Int)<(s.size:Int):=by omega
  have HBA:Hid (∀k (h:k<s.size),jh s[k]=true->(bl s).any jh=true):=fun k h hb=>List.any_eq_true.2 ⟨s[k],List.mem_of_getElem? (DA s k h),hb⟩
  have HGO:Hid ((∀k (h:k<s.size),jh s[k]=false)->(bl s).any jh=false):=fun h=>by
   rw[List.any_eq_false];intro x hx;obtain⟨j,hj,rfl⟩:=List.getElem_of_mem hx;have:=h j (by rw[<-bN];exact hj);rw[show(bl s)[j]=s[j]'(by rw[<-bN];exact hj)from rfl,this];simp
  have HL:=Lib.hid YP;have HD:=Lib.hid abe;rw[hf.out];generalize(bl s).any jh=an at*
  clear hf;go_in;go_wp2_with fail
  go_loopw [3] (fun j wr=>∃k:Nat,k<=s.size/\j=.int .i64 (k:Int)/\Hid (∀i (h:i<s.size),i<k->jh s[i]=false)/\wr=w) (fun j _=>s.size-(intOf j).toNat)
  .exact⟨0,Nat.zero_le _,rfl,fun i _ hi=>absurd hi (Nat.not_lt_zero _),rfl⟩
  .
   obtain⟨k,hk,rfl,hA,rfl⟩:=hrel;by_cases hlt:k<s.size
   .have q1:(k:Int)<(s.size:Int):=by omega
    have q2:(0:Int)<=(k:Int):=by omega
    have HBk:=Lib.hid (HBA k hlt)
    have HNX:Hid (jh s[k]=false->∀i (h:i<s.size),i<k+1->jh s[i]=false):=fun h i hi hik=>by
     by_cases e:i=k
     .subst e;exact h
     .exact hA i hi (by omega)
    have hdb:jh s[k]=(!(decide (97<=(s[k].toNat:Int))&&decide ((s[k].toNat:Int)<=122))&&!(decide (48<=(s[k].toNat:Int))&&decide ((s[k].toNat:Int)<=57))&&((s[k].toNat:Int) != 45)):=rfl;have HLk:Hid (∀W,Calls prog 130 #[.int .u8 (s[k].toNat:Int)] W fun e w'=>e=.returned (.bool (decide (97<=(s[k].toNat:Int))&&decide ((s[k].toNat:Int)<=122)))/\W=w'):=fun W=>HL _ W;have HDk:Hid (∀W,Calls prog 131 #[.int .u8 (s[k].toNat:Int)] W fun e w'=>e=.returned (.bool (decide (48<=(s[k].toNat:Int))&&decide ((s[k].toNat:Int)<=57)))/\W=w'):=fun W=>HD _ W;generalize hlw:(decide (97<=(s[k].toNat:Int))&&decide ((s[k].toNat:Int)<=122))=lw at*
    generalize hdg:(decide (48<=(s[k].toNat:Int))&&decide ((s[k].toNat:Int)<=57))=dg at*
    generalize hne:((s[k].toNat:Int) != 45)=ne at*
    rw[hdb]at HBk HNX;clear hlw hdg hdb
    cases lw<;>cases dg<;>cases ne
    case false.false.true=>
     have hf2:Hid (an=true):=HBk rfl;have hf3:=hf2.out;subst hf3;clear HBk HNX hf2;go_wp2_with (first|(go_at_call 130;refine(HLk _).mono ?_;rintro e w' ⟨rfl,rfl⟩)|(go_at_call 131;refine(HDk _).mono ?_;rintro e w' ⟨rfl,rfl⟩));go_ret;exact⟨rfl,rfl⟩
    all_goals
     have HN2:=Lib.hid (HNX rfl);clear HBk HNX;go_wp2_with (first|(go_at_call 130;refine(HLk _).mono ?_;rintro e w' ⟨rfl,rfl⟩)|(go_at_call 131;refine(HDk _).mono ?_;rintro e w' ⟨rfl,rfl⟩));go_roundw
     .exact⟨k+1,by omega,by go_num,HN2,by trivial⟩
     .simp[intOf];omega
   .have q1:¬(k:Int)<(s.size:Int):=by omega
    have hf2:=HGO (fun i hi=>hA i hi (by omega));subst hf2;go_wp2_with fail;go_ret;exact⟨rfl,rfl⟩
end
def nk.cells{w:aB}{base:Nat}{v:Value}{d:List Int}(h:nk w base v d):∃a c,v=.slice a d.length c/\∀j (b:j<d.length),∃g,a=some (aD g 0)/\g<w.heap.size/\w.cell? (aD g j)=some (.int .i64 d[j]):=by
 obtain⟨_,n⟩:=h;rcases n with⟨f,m⟩|⟨g,e,k,f,q,i,p,r,s,o⟩
 .exact⟨none,0,by rw[f,m],fun j b=>by omega⟩
 .refine⟨some (aD g 0),e,f,fun j b=>⟨g,rfl,(bY.1 i).1,?_⟩⟩
  rw[oW _ _ _ _ _ _ i];have:=ei (fun l=>l[j]?) o
  simp only[mi,ld,aG b,fo,cO b,jm]at this;rw[<-this,tv]
def pK(s:aJ)(a:Int):Int:=if a<(s.size:Int)then 5 else if lY (bl s)=false then 6 else if gJ s=false then 3 else 0
def NE(s:aJ)(a:Int):pK s a=kF 0 s a:=by
 unfold pK kF cQ;by_cases b:a<(s.size:Int)
 .simp[b]
 .cases lY (bl s)<;>cases gJ s<;>simp[b]
def Nr(s:ByteArray)(most:Int)(w:World)(hs:s.size<=1000000):Calls prog 72 #[.string s,.int .i64 most] w fun e w'=>e=.returned (.int .i64 (pK s most))/\Gr w w':=by
 by_cases h20:most<(s.size:Int)
 .have hf:Hid (pK s most=5):=if_pos h20
  rw[hf.out];go_in;go_wp2_with fail;go_ret;exact⟨rfl,Gr.refl w⟩
 .have hf:Hid (pK s most=if lY (bl s)=false then 6 else if gJ s=false then 3 else 0):=if_neg h20
  have HAL:=Lib.hid (NK s w hs);have HSQ:=Lib.hid (fun W=>Ja s W hs);have HCT:=Lib.hid L4;rw[hf.out];have HPR:Hid (lY (bl s)=((iH (bl s)==0)&&(iy (bl s)).all fun r=>!hJ r)):=rfl;generalize lY (bl s)=pb at*
  generalize gJ s=sq at*
  have HRL:Hid ((iy (bl s)).length<=1000000):=by
   show _<=_;have h1:=MY (bl s);rw[bN]at h1;omega
  generalize iy (bl s)=rs at*
  generalize nB (jY 0 (bl s))=os at*
  generalize ls 0 (bl s)=at_ at*
  generalize iH (bl s)=ez at*
  clear hf;by_cases he:ez=0
  case neg=>
   have hp:pb=false:=by rw[HPR.out];simp[he]
   have e1:(ez==0)=false:=beq_eq_false_iff_ne.2 he;have e2:(ez != 0)=true:=by simp[he]
   rw[if_pos hp];replace he:=Lib.hid he;clear hp;go_in;go_wp2_with fail;refine HAL.mono ?_;rintro e w1 ⟨u,v,rfl,iu,iv,g1⟩;go_wp2_with fail;go_ret;exact⟨rfl,g1⟩
  case pos=>
   subst he;have HP2:Hid (pb=rs.all fun r=>!hJ r):=by show _=_;rw[HPR.out];simp
   clear HPR;go_in;go_wp2_with fail;refine HAL.mono ?_;rintro e w1 ⟨u,v,rfl,iu,iv,g1⟩;obtain⟨ua,uc,rfl,hj⟩:=iu.cells;obtain⟨va,vc,rfl,-⟩:=iv.cells;have HJ:=Lib.hid hj;have G1:=Lib.hid g1;clear iu iv g1 hj HAL;go_wp2_with fail
   go_loopw [9] (fun j wr=>∃k:Nat,k<=rs.length/\j=.int .i64 (k:Int)/\Hid (∀i (h:i<rs.length),i<k->hJ rs[i]=false)/\wr=w1) (fun j _=>rs.length-(intOf j).toNat)
   .exact⟨0,Nat.zero_le _,rfl,fun i _ hi=>absurd hi (Nat.not_lt_zero _),rfl⟩
   .
    obtain⟨k,hk,rfl,hA,rfl⟩:=hrel;by_cases hlt:k<rs.length
    .have q1:(k:Int)<(rs.length:Int):=by omega
     have q2:(0:Int)<=(k:Int):=by omega
     obtain⟨g,rfl,hg,hc⟩:=HJ.out k hlt;have hk6:k<1000000:=Nat.lt_of_lt_of_le hlt HRL
     have HNX:Hid (hJ rs[k]=false->∀i (h:i<rs.length),i<k+1->hJ rs[i]=false):=fun h i hi hik=>by
      by_cases e:i=k
      .subst e;exact h
      .exact hA i hi (by omega)
     have HBD:Hid (hJ rs[k]=true->pb=false):=fun h=>by
      rw[HP2.out,List.all_eq_false];exact⟨rs[k],List.getElem_mem hlt,by simp[h]⟩
     have HCk:=HCT rs[k];generalize hcb:hJ rs[k]=cb at*
     generalize rs[k]=z at*
     clear hcb;replace HCk:=Lib.hid HCk
     cases cb
     .have HN2:=Lib.hid (HNX rfl)
      clear HNX HBD;go_wp2_with fail;refine(HCk _).mono ?_;rintro e w2 ⟨rfl,rfl⟩;go_wp2_with fail;go_roundw
      .exact⟨k+1,by omega,by go_num,HN2,by trivial⟩
      .simp[intOf];omega
     .have hp:=HBD rfl
      subst hp;clear HNX HBD;go_wp2_with fail;refine(HCk _).mono ?_;rintro e w2 ⟨rfl,rfl⟩;go_wp2_with fail;go_ret;exact⟨rfl,G1⟩
    .have q1:¬(k:Int)<(rs.length:Int):=by omega
     have hp:pb=true:=by
      rw[HP2.out,List.all_eq_true];intro x hx;obtain⟨j,hj,rfl⟩:=List.getElem_of_mem hx;rw[hA.out j hj (by omega)];rfl
     subst hp;clear HP2
     cases sq
     all_goals
      go_wp2_with fail;refine(HSQ _).mono ?_;rintro e w2 ⟨rfl,rfl⟩;go_wp2_with fail;go_ret;exact⟨rfl,G1⟩
def Y_(a b:aJ):(a.toList==b.toList)=decide (a=b):=by
 rw[kE];simp only[lu,iK];constructor
 .intro h;rw[hI,hI]at h;exact tG h
 .intro h;rw[h]
def ab0(l:bP)(v:Value)(w:aB)(hv:oT w v l)(hl:l.length<=1000000):Calls prog 128 #[v] w (RG w (.int .i64 (nL l))):=by
 obtain⟨X,a,U,rfl,a6⟩:=hv;have T:Hid (nL l=if 20<l.length then 9 else lD [] l):=rfl;by_cases E:20<l.length
 .have a4:(20:Int)<(l.length:Int):=by omega
  have N:nL l=9:=by rw[T.out,aG E]
  rw[N];clear X;go_in;go_wp2_with fail;go_ret;exact⟨rfl,Gr.refl w⟩
 .have a4:¬(20:Int)<(l.length:Int):=by omega
  have N:nL l=lD [] l:=by rw[T.out,aF E]
  rw[N];have HF:=aA (LT l)
  have p:Hid (∀V,Gr w V->∀k (h:k<l.length),∃b o,a=some (aD b o)/\b<V.heap.size/\V.cell? (aD b (o+k))=some (.string l[k])):=fun V M k h=>by
   obtain⟨a1,D,K,hj⟩:=X.gr M;obtain⟨b,o,ha,Y,hc⟩:=hj k h;obtain⟨rfl,rfl⟩:a=a1/\U=D:=by simpa using K
   exact⟨b,o,ha,Y,hc⟩
  have HE:Hid (lD [] l=lD (l.take 0) (l.drop 0)):=rfl;have S:=aA IU;generalize lD [] l=r at*
  clear N T X;go_in;go_wp2_with fail
  go_loopw [3] (fun j wr=>∃k:Nat,k<=l.length/\j=.int .i64 k/\Hid (Gr w wr)/\Hid (r=lD (l.take k) (l.drop k))) (fun j _=>l.length-(intOf j).toNat)
  .exact⟨0,bW _,rfl,Gr.refl w,HE⟩
  .
   obtain⟨k,hk,rfl,F,hr⟩:=hrel;by_cases t:k<l.length
   .have q1:(k:Int)<(l.length:Int):=by omega
    have q2:=nn k
    have s:=HF k t;rw[<-hr.out]at s;have n:=aA s;obtain⟨b,o,rfl,Y,hc⟩:=p.out wr F.out k t;have C:=aA (S l[k]);generalize I:jt l[k]=O at*
    replace I:=aA I;clear s hr;by_cases z:O=0
    case neg=>
     have K:(O==0)=false:=dI.2 z;have e2:(O != 0)=true:=by simp[z]
     have f:r=O:=by rw[n.out,aF z]
     subst f;replace z:=aA z;go_wp2_with fail;refine bA (C _) fun w2 L=>?_;go_wp2_with fail;go_ret;exact⟨rfl,F.trans L⟩
    case pos=>
     subst z;have g:=aA (show r=if Lib.containsS (l.take k) l[k]=true then 7 else lD (l.take (k+1)) (l.drop (k+1)) by rw[n.out];exact aG rfl)
     clear n;have R:=aA (show k<21 by omega)
     go_wp2_with fail;refine bA (C _) fun w2 L=>?_;have G2:=aA (F.trans L);clear F L Y hc;go_wp2_with fail;generalize wr=a9 at*
     go_loopw [5] (fun j wr=>∃m:Nat,m<=k/\j=.int .i64 m/\Hid (Gr w wr)/\Hid (∀i (h:i<l.length),i<m->l[i]≠l[k])) (fun j _=>k-(intOf j).toNat)
     .exact⟨0,bW _,rfl,G2,fun i _ hi=>absurd hi (lZ _)⟩
     .
      obtain⟨m,hm,rfl,d,W⟩:=hrel;clear G2;by_cases G:m<k
      .have q3:(m:Int)<(k:Int):=by omega
       have q4:=nn m
       have q5:(m:Int)<(l.length:Int):=by omega
       have q6:m<21:=sR G R;have a5:m<l.length:=by omega
       have P:Hid (∀V,Gr wr V->V.cell? (aD b (o+k))=some (.string l[k])/\V.cell? (aD b (o+m))=some (.string l[m])/\b<V.heap.size):=by
        intro V M;obtain⟨b1,o1,K,Z,a2⟩:=p.out V (d.out.trans M) k t;obtain⟨b2,o2,e2,a7,a3⟩:=p.out V (d.out.trans M) m a5;obtain⟨rfl,rfl⟩:b=b1/\o=o1:=by simpa using K
        obtain⟨rfl,rfl⟩:b=b2/\o=o2:=by simpa using e2
        exact⟨a2,a3,Z⟩
       obtain⟨f1,f2,f3⟩:=P.out wr (Gr.refl wr);have J:=Y_ l[m] l[k];by_cases c:l[m]=l[k]
       .rw[fm c]at J
        have f:r=7:=by
         rw[g.out,aG ((Lib.containsS_iff _ _).2 ?_)];rw[<-c];exact List.mem_take_iff_getElem.2 ⟨m,by omega,rfl⟩
        subst f;clear g;replace c:=aA c;generalize l[k]=x at*
        generalize l[m]=y at*
        go_wp2_with fail;refine ej (by kernel_rfl) (by kernel_rfl) ?_;repeat (go_big_quiet_step (fail))
        refine cX ?_;rintro _ ⟨q,rfl⟩;go_wp2_with fail;go_ret;exact⟨rfl,d.trans (cK wr q)⟩
       .rw[eL c]at J
        have B:Hid (∀i (h:i<l.length),i<m+1->l[i]≠l[k]):=fun i hi a8=>by
         by_cases e:i=m
         .subst e;exact c
         .exact W i hi (by omega)
        replace c:=aA c;clear W;generalize u:l[k]=x at*
        generalize l[m]=y at*
        go_wp2_with fail;refine ej (by kernel_rfl) (by kernel_rfl) ?_;repeat (go_big_quiet_step (fail))
        refine cX ?_;rintro _ ⟨q,rfl⟩;have G4:=aA (d.trans (cK wr q));clear f1 f2 f3;replace u:=aA u;generalize gw wr q=V at*
        go_wp2_with fail;go_roundw
        .exact⟨m+1,by omega,by go_num,G4,by first|exact B|(rw[u.out];exact B)⟩
        .simp[intOf];omega
      .obtain rfl:m=k:=by omega
       have q3:¬(m:Int)<(m:Int):=by omega
       have H:¬Lib.containsS (l.take m) l[m]=true:=fun h=>by
        obtain⟨i,hi,e⟩:=List.mem_take_iff_getElem.1 ((Lib.containsS_iff _ _).1 h);exact W i (by omega) (by omega) e
       have Q:=aA (show r=lD (l.take (m+1)) (l.drop (m+1)) by rw[g.out,aF H])
       clear H g;go_wp2_with fail;go_roundw
       .exact⟨m+1,by omega,by go_num,d,Q⟩
       .simp[intOf];omega
   .obtain rfl:k=l.length:=by omega
    have q1:¬(l.length:Int)<(l.length:Int):=by omega
    have f:r=0:=by rw[hr.out,tt];rfl
    subst f;go_wp2_with fail;go_ret;exact⟨rfl,F⟩
def QQ(l:bP)(v:Value)(w:aB)(g:oT w v l)(k:l.length<=1000000):Calls prog 74 #[v] w (RG w (.int .i64 (kG l))):=by
 have i:=aA (ab0 l v w g k);obtain⟨a,c,rfl,-⟩:=g.2;by_cases b:l=[]
 .have d:kG l=4:=aG b
  rw[d];subst b;go_in;go_wp2_with fail;go_ret;exact⟨rfl,Gr.refl w⟩
 .have d:kG l=nL l:=aF b
  rw[d];have f:l.length≠0:=fun h=>b (fQ.1 h);have m:((l.length:Int)==0)=false:=by simp;exact b
  generalize nL l=z at*
  generalize l.length=n at*
  replace f:=aA f;go_in;go_wp2_with fail;refine bA i fun o j=>?_;go_wp2_with fail;go_ret;exact⟨rfl,j⟩
@[go_sem] def ahB:dZ prog 226 =true:=by kernel_rfl
@[go_sem] def ae9:prog.cellsOf 226 =32:=by kernel_rfl
@[go_sem] def agB:prog.eqGuardType prog.depth 226 =false:=by kernel_rfl
@[go_sem] def afQ (x y:Id) (w:aB):Sem.run prog (Op.equalIn 10000 226 (aE (bC x)) (aE (bC y))) w=.ok (x==y) w:=tr w 9998 underlying226 underlying5 cellsByte x y
def aax(w:aB):(Instr.build 226 #[]).run prog w=.ok (aE (bC bM)) w:=by kernel_rfl
@[go_sem] def afJ (w:aB):eG prog 226 #[] w=.ok (.value (aE (bC bM))) w:=fe (aax w)
def YL:om 159 226 32 32:=rE underlying159 (by kernel_rfl) (aH rfl) (aH rfl)
@[go_sem ↓] def afq {P:Program} (b:Operand->Value) (d:Option Tmp) (a:Array (Nat×Operand)) (e:TypeId) (p:String) (c:Array Edge) (g:Option (Nat×Bool)) (w:aB):
  Sem.run P (execOp b ⟨d,.buildSlice 159 1 a,e,p,c,g⟩) w=jI P 159 1 (a.map fun x=>(x.1,b x.2)) w:=rfl
def XO(f:Nat->Value)(w:aB):(Instr.buildSlice 159 1 #[(0,aE ((List.range 32).map f))]).run prog w=.ok (aR (w.heap.size) 0 1 1) (w.alloc (aC ((List.range 32).map f) 226)):=by kernel_rfl
@[go_sem] def aeW (y:Id) (w:aB):jI prog 159 1 #[(0,aE (bC y))] w=.ok (.value (aR (w.heap.size) 0 1 1)) (w.alloc (aC (bC y) 226)):=qc (by
 rw[gi (bC y) 32 (cC y)];exact XO _ w)
def Ng(l:List Id)(v:Value)(w:aB)(z:nX w v l)(Z:l.length<=1000):Calls prog 76 #[v] w fun e w'=>∃I,e=.returned I/\nX w' I l/\Gr w w':=by
 obtain⟨a,u,rfl,T,r⟩:=id z;rw[cL]at T|-
 have L:=aA z;obtain⟨B,H⟩:=ex w.heap.size;have C:=aA H;go_in;go_wp2_with fail
 go_loopw [3,4] (fun s j wr=>∃(k:Nat) (m:dB) (n:Nat),k<=l.length/\j=.int .i64 k/\s=.slice m k n/\Hid (Gr w wr)/\Hid (c_ 226 32 wr B (.slice m k n) ((l.take k).map bC))) (fun _ j _=>l.length-(intOf j).toNat)
 .exact⟨0,none,0,bW _,rfl,rfl,Gr.refl w,c_.nil _ _ _ _⟩
 .
  obtain⟨k,m,n,Y,rfl,rfl,p,x⟩:=hrel;have M:=aA (show B<=wr.heap.size by have:=p.size;have:=C.out;omega)
  by_cases h:k<l.length
  .obtain⟨P,f,G,-,r⟩:=bX.gr L.out p.out
   obtain⟨b,o,S,X,u1,u2⟩:=r k (by rw[cL];exact h);obtain⟨rfl,-,rfl⟩:a=P/\l.length=(l.map bC).length/\u=f:=by simpa using G
   subst S;rw[ig]at u2;have D:Hid ((l.take (k+1)).map bC=(l.take k).map bC++[bC l[k]]):=by
    show _=_;rw[eF h,gD];rfl
   have d:=aA (show ((l.take k).map bC).length=k by simp;omega)
   generalize l[k]=y at*
   have V:(k:Int)<(l.length:Int):=by omega
   have q2:=nn k
   have Q:=cC y;have R:=gE y;have O:=aA (aY wr (aC (bC y) 226) _ rfl);have t:=aA (x.gr ((Gr.refl wr).alloc (aC (bC y) 226)));have Z9:=aA (show B<=(wr.alloc (aC (bC y) 226)).heap.size by have W:=M.out;simp;omega)
   obtain⟨rows,c⟩:=ex ((l.take k).map bC);rw[c]at D d t;replace c:=aA c;go_wp2_with (at_builtin;refine uh YL _ rfl (.tmp 11) (.tmp 16) rfl B (.slice m k n) rows (by simp[Act.eval]) t wr.heap.size (bC y) (by simp[Act.eval]) O Q R (k+1) ?g1 ?g2 Z9 ?_)
   case g1=>rw[d.out]
   case g2=>omega
   intro E F J i g _;have K:Hid (Gr w J):=(p.alloc _).grown g (fun q U=>by have:=(t.own U).1;have:=C.out;omega);have N:Hid (c_ 226 32 J B (.slice E (k+1) F) ((l.take (k+1)).map bC)):=by show c_ _ _ _ _ _ _;rw[D.out];exact i
   go_wp2_with fail;go_roundw
   .exact⟨k+1,E,F,by omega,by go_num,rfl,K,N⟩
   .simp[intOf];omega
  .obtain rfl:k=l.length:=by omega
   have V:¬(l.length:Int)<(l.length:Int):=by omega
   rw[jS]at x;go_wp2_with fail;go_ret;exact⟨_,rfl,x.sl,p⟩
def ZZ(l:List Id)(x:Id)(v:Value)(w:aB)(F:nX w v l)(hl:l.length<=1000):Calls prog 129 #[v,aE (bC x)] w (RG w (.bool (hasI l x))):=by
 obtain⟨a,z,rfl,R,r⟩:=id F;rw[cL]at R|-
 have M:=aA F;obtain⟨n,T⟩:=ex w.heap.size;obtain⟨H,B,t,G⟩:=gO T (aC (bC x) 226)
 have O:=cC x;generalize b:hasI l x=J at*
 replace b:=aA b;go_in;go_wp2_with fail;try rw[B]
 replace B:=aA B
 go_loopw [5] (fun j wr=>∃k:Nat,k<=l.length/\j=.int .i64 k/\Hid (Gr H wr)/\Hid (∀i (h:i<l.length),i<k->(l[i]==x)=false)) (fun j _=>l.length-(intOf j).toNat)
 .exact⟨0,bW _,rfl,Gr.refl H,fun i _ hi=>absurd hi (lZ _)⟩
 .
  obtain⟨k,hk,rfl,p,I⟩:=hrel;by_cases s:k<l.length
  .have L:Hid (∃g m,a=some (aD g m)/\∀V,Gr wr V->hasRow V (aD g (m+k*32)) 32=true/\rowAt V (aD g (m+k*32)) 32=bC l[k]/\g<V.heap.size):=by
    obtain⟨N,o,P,-,r⟩:=bX.gr M.out (t.out.trans p.out);obtain⟨g,m,Q,D,u1,u2⟩:=r k (by rw[cL];exact s);obtain⟨rfl,-,rfl⟩:a=N/\l.length=(l.map bC).length/\z=o:=by simpa using P
    rw[ig]at u2;exact⟨g,m,Q,fun V C=>⟨(C.hasRow D).trans u1,(C.rowAt D).trans u2,dQ D C.size⟩⟩
   obtain⟨g,m,rfl,c⟩:=L.out;have q1:(k:Int)<(l.length:Int):=by omega
   have q2:=nn k
   obtain⟨X,Y,Z⟩:=c wr (Gr.refl wr);obtain⟨r0,r1,r2⟩:=dL 32 O ((p.out.block (aI G.out)).trans G.out)
   have f:Hid ((l[k]==x)=false->∀i (h:i<l.length),i<k+1->(l[i]==x)=false):=fun h i hi S=>by
    by_cases e:i=k
    .subst e;exact h
    .exact I i hi (by omega)
   have d:Hid ((l[k]==x)=true->J=true):=fun h=>by
    rw[<-b.out];exact mD.2 ⟨l[k],kA s,h⟩
   generalize l[k]=y at*
   generalize W:(y==x)=eb at*
   cases eb
   .have u:=aA (f rfl)
    go_wp2_with fail;refine ej (by kernel_rfl) (by kernel_rfl) ?_;repeat (go_big_quiet_step (fail))
    refine cX ?_;rintro _ ⟨q,rfl⟩;have K:=aA (p.trans (cK wr q));generalize gw wr q=V at*
    go_wp2_with fail;go_roundw
    .exact⟨k+1,by omega,by go_num,K,u⟩
    .simp[intOf];omega
   .have E:=d rfl
    subst E;go_wp2_with fail;refine ej (by kernel_rfl) (by kernel_rfl) ?_;repeat (go_big_quiet_step (fail))
    refine cX ?_;rintro _ ⟨q,rfl⟩;go_wp2_with fail;go_ret;exact⟨rfl,t.trans (p.trans (cK wr q))⟩
  .have q1:¬(k:Int)<(l.length:Int):=by omega
   have E:J=false:=by
    rw[<-b.out];unfold hasI;rw[vI];intro y U;obtain⟨j,r,rfl⟩:=pD U;rw[I.out j r (by omega)];simp
   subst E;go_wp2_with fail;go_ret;exact⟨rfl,t.trans p⟩
end Go.Proofs.YtjfaogajmoffoaaGreatDoor
