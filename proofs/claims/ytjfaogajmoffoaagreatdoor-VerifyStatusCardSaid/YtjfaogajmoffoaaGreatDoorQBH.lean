/- Lemmas for VerifyStatus. -/
import Derived.Test.YtjfaogajmoffoaaGreatDoorQBG
set_option maxRecDepth 100000
set_option maxHeartbeats 16000000
set_option linter.all false
namespace Go.Proofs.YtjfaogajmoffoaaGreatDoor
open Go.RowKit Tryz
section
section
variable (n st f a : Nat) (ws : List aT)
theorem ob(w:aT):(⟨st,f,w::ws,a,0⟩:PS).next n=(⟨f+1,f+1+w.length,ws,a,0⟩,w,true):=by unfold PS.next;rw[aF (by simp)]
theorem vM:(⟨st,f,[],a,0⟩:PS).next n=(⟨st,f,[],n,4⟩,[],false):=by unfold PS.next;rw[aF (by simp)]
theorem Mv(w:aT)(h:kH w=0):(⟨st,f,w::ws,a,0⟩:PS).targetP n=(⟨f+1,f+1+w.length,ws,a,0⟩,eI w):=by
 unfold PS.targetP;rw[ob,aG rfl];simp only[h,m9]
theorem Dc(w:aT)(h:jW w=0):(⟨st,f,w::ws,a,0⟩:PS).groupP n=(⟨f+1,f+1+w.length,ws,a,0⟩,w):=by
 unfold PS.groupP;rw[ob,aG rfl];simp only[h,m9]
theorem EX(lo hi:Int)(w:aT)(h:ja lo hi w=0):(⟨st,f,w::ws,a,0⟩:PS).numP n lo hi=(⟨f+1,f+1+w.length,ws,a,0⟩,lR w):=by
 unfold PS.numP;rw[ob,aG rfl];simp only[h,m9]
theorem aed(w:aT)(h:fW w=0):(⟨st,f,w::ws,a,0⟩:PS).pubP n=(⟨f+1,f+1+w.length,ws,a,0⟩,k_ w,kP w):=by
 unfold PS.pubP;rw[ob,aG rfl];simp only[h,m9]
theorem abt(w:aT)(h:lJ w=0):(⟨st,f,w::ws,a,0⟩:PS).autsP n=(⟨f+1,f+1+w.length,ws,a,0⟩,true,oc w):=by
 unfold PS.autsP;rw[ob,aG rfl];simp only[h,m9]
theorem aa5:(⟨st,f,nt::ws,a,0⟩:PS).modeP n=(⟨f+1,f+1+nt.length,ws,a,0⟩,false,[]):=by
 unfold PS.modeP;rw[ob,aG (.inr rfl)]
end
end
section
section
variable {s w0 : aT} {ws : List aT} (hsp : dS 32 s = w0 :: ws)
include hsp
end
end
section
section
variable (n st f a : Nat)
theorem NA:(⟨st,f,[],a,0⟩:PS).targetP n=(⟨st,f,[],n,4⟩,bM):=by unfold PS.targetP;rw[vM,aF (by simp)]
theorem FI:(⟨st,f,[],a,0⟩:PS).groupP n=(⟨st,f,[],n,4⟩,[]):=by unfold PS.groupP;rw[vM,aF (by simp)]
theorem Dm(lo hi:Int):(⟨st,f,[],a,0⟩:PS).numP n lo hi=(⟨st,f,[],n,4⟩,0):=by unfold PS.numP;rw[vM,aF (by simp)]
theorem adL:(⟨st,f,[],a,0⟩:PS).pubP n=(⟨st,f,[],n,4⟩,0,aQ):=by unfold PS.pubP;rw[vM,aF (by simp)]
theorem pJ(R:List aT)(c:Cm):jq n (⟨st,f,R,n,4⟩,c)=(aV 0,n,4):=by
 have e:ng n ⟨st,f,R,n,4⟩=⟨st,f,R,n,4⟩:=by
  unfold ng;split
  .unfold PS.fail;rw[aF (by simp)]
  .rfl
 unfold jq;simp only[e];rw[aG (aH rfl)]
theorem abQ(R:List aT)(c:Cm)(h:f<n):jq n (⟨st,f,R,a,0⟩,c)=(aV 0,f,5):=by
 have e:ng n ⟨st,f,R,a,0⟩=⟨st,f,R,f,5⟩:=by
  unfold ng;rw[aG (by exact h)];unfold PS.fail;rw[aG ⟨rfl,by decide⟩]
 unfold jq;simp only[e];rw[aG (aH rfl)]
end
end
end Go.Proofs.YtjfaogajmoffoaaGreatDoor
