/- Parts of the proof. No condition. -/
import Derived.Test.YtfnopgdcaanaiaaGreatDoorW12
set_option linter.all false
set_option maxRecDepth 100000
set_option maxHeartbeats 8000000
namespace Go.Proofs.YtfnopgdcaanaiaaGreatDoor
namespace Np
def hxN:Signed:=⟨⟨[120],2,0,[⟨[97],0,0⟩]⟩,[]⟩
def hxS:Signed:=⟨⟨[120],4,0,[⟨[],1,0⟩]⟩,[]⟩
def hxW(life:Int)(sg:List Sig):Signed:=⟨⟨[119,46,120],1,life,[⟨[],7,0⟩]⟩,sg⟩
def hxZ(life:Int)(sg:List Sig):Zone:=⟨[120],[hxN,hxS,hxW life sg]⟩
def hxC(life:Int)(sg:List Sig):List Copy:=[⟨0,0,20,hxZ life sg⟩]
def hxH(life:Int)(sg:List Sig):Hist:=⟨[⟨[97],1,0⟩],hxC life sg,⟨[46],6,0,[⟨[],1,1⟩]⟩,[1],2,50⟩
def hxG:Sig:=⟨[120],1,1,0,25,0⟩
def nm(life:Int)(sg:List Sig):Prop:=(life=10/\sg = [])\/(life=10/\sg = [hxG])\/(life=0/\sg = [])
theorem XZ{life:Int}{sg:List Sig}(h:nm life sg):fh (hxZ life sg)=true:=by
 rcases h with ⟨rfl,rfl⟩ | ⟨rfl,rfl⟩ | ⟨rfl,rfl⟩ <;> decide
theorem XU{life:Int}{sg:List Sig}(h:nm life sg):ea (hxZ life sg) = [[],[],[]]:=by
 rcases h with ⟨rfl,rfl⟩ | ⟨rfl,rfl⟩ | ⟨rfl,rfl⟩ <;> decide
theorem X3{life:Int}{sg:List Sig}(h:nm life sg):VZone (hxZ life sg):=by
 have hb:=XU h;refine⟨XZ h,by simp[hxZ],⟨hxS,by simp[hxZ],rfl,rfl⟩,⟨hxN,by simp[hxZ],rfl,rfl⟩,λx hx=>?_,λi hi ht=>?_,λi hi ht=>?_,λi x b hx dT=>?_,λi x b hx dT=>?_,λx hx=>?_⟩
 ·simp only[hxZ,List.mem_cons,Qh,or_false] at hx;rcases hx with rfl | rfl | rfl <;> rfl
 ·match i,hi with
  | 0,_=>exact absurd ht (by simp[hxZ,hxS])
  | 1,_=>exact absurd ht (by simp[hxZ,hxW])
  | i+2,hi=>exact absurd hi (by simp[hxZ])
 ·match i,hi with
  | 0,_=>exact absurd ht (by simp[hxZ,hxN])
  | 1,_=>exact absurd ht (by simp[hxZ,hxS])
  | i+2,hi=>exact absurd hi (by simp[hxZ])
 ·rw[hb] at dT
  match i,hx,dT with
  | 0,hx,dT=>simp[hxZ] at hx dT;subst hx;subst dT;simp[jY,hxN]
  | 1,hx,dT=>simp[hxZ] at hx dT;subst hx;subst dT;simp[jY,hxS]
  | 2,hx,dT=>simp[hxZ] at hx dT;subst hx;subst dT;simp[jY,hxW]
  | i+3,hx,dT=>simp[hxZ] at hx
 ·rw[hb] at dT
  match i,hx,dT with
  | 0,hx,dT=>simp at dT;subst dT;intro h;exact absurd rfl h
  | 1,hx,dT=>simp at dT;subst dT;intro h;exact absurd rfl h
  | 2,hx,dT=>simp at dT;subst dT;intro h;exact absurd rfl h
  | i+3,hx,dT=>simp[hxZ] at hx
 ·simp only[hxZ,List.mem_cons,Qh,or_false] at hx;rcases hx with rfl | rfl | rfl
  ·exact⟨by decide,λi g hg=>by simp[hxN] at hg⟩
  ·exact⟨by decide,λi g hg=>by simp[hxS] at hg⟩
  ·rcases h with ⟨rfl,rfl⟩ | ⟨rfl,rfl⟩ | ⟨rfl,rfl⟩
   ·exact⟨by decide,λi g hg=>by simp[hxW] at hg⟩
   ·refine⟨by decide,λi g hg=>?_⟩
    match i,hg with
    | 0,hg=>
     simp[hxW] at hg;subst hg;exact⟨rfl,by decide,by decide,by decide,λa ha=>by simp[hxW] at ha;subst ha;exact⟨rfl,rfl⟩,λp _ h=>absurd h (by decide)⟩
    | i+1,hg=>simp[hxW] at hg
   ·exact⟨by decide,λi g hg=>by simp[hxW] at hg⟩
theorem Oq{life:Int}{sg:List Sig}(h:nm life sg):VHist (hxH life sg):=by
 refine⟨by simp[hxH],by simp[hxH],⟨by simp[hxH],λx hx=>?_,by simp[hxH]⟩,⟨by show cN ⟨[46],6,0,[⟨[],1,1⟩]⟩=true;decide,rfl,rfl,by simp[hxH],λn hn=>?_⟩,λc hc=>?_,List.pairwise_singleton _ _⟩
 ·simp only[hxH,List.mem_cons,Qh,or_false] at hx;subst hx;exact⟨by decide,by decide,by decide,by decide⟩
 ·simp only[hxH,List.mem_cons,Qh,or_false] at hn;subst hn;decide
 ·simp only[hxH,hxC,List.mem_cons,Qh,or_false] at hc;subst hc;exact⟨by simp[hxH],by simp[hxH],X3 h⟩
theorem XT(life:Int)(sg:List Sig):apexes (hxC life sg) = [[120]]:=by
 rw[<-GA];rfl
theorem XY{life:Int}{sg:List Sig}(h:nm life sg):pub (hxC life sg) [120] = [⟨[120],hxN,[⟨0,20⟩],[]⟩,⟨[120],hxS,[⟨0,20⟩],[]⟩,⟨[120],hxW life sg,[⟨0,20⟩],[]⟩]:=by
 have h1:gX [⟨0,20⟩] = [⟨0,20⟩]:=O9 (by simp) (by decide) (λt=>by simp[inS]);rw[<-h1];rcases h with ⟨rfl,rfl⟩ | ⟨rfl,rfl⟩ | ⟨rfl,rfl⟩ <;> rfl
theorem JN{x:Held}{d b e:Int}(hf:x.fresh = [⟨0,b⟩])(hb:0<b)(he:max b (js x.signed d b)=e):pa x d = [⟨0,e⟩]:=by
 unfold pa;rw[hf];have hs:kV x.signed d ⟨0,b⟩=⟨0,e⟩:=by unfold kV;rw[<-he]
 rw[List.map_cons,List.map_nil,hs];exact O9 (by intro s hs;rw[List.mem_singleton] at hs;subst hs;show (0:Int)<e;omega) (by omega) (λt=>by simp[inS])
theorem On{life:Int}{sg:List Sig}(h:nm life sg){e:Int}(he:max 20 (js (hxW life sg) 2 20)=e):bM (hxH life sg) = [⟨[120],hxN,[⟨0,20⟩],[⟨0,24⟩]⟩,⟨[120],hxS,[⟨0,20⟩],[⟨0,24⟩]⟩,⟨[120],hxW life sg,[⟨0,20⟩],[⟨0,e⟩]⟩]:=by
 unfold bM pubAll;rw[show (hxH life sg).copies=hxC life sg from rfl,XT,List.flatMap_cons,List.flatMap_nil,List.append_nil,XY h];simp only[List.map_cons,List.map_nil];rw[JN (d:=(hxH life sg).drift) (b:=20) (e:=24) rfl (by decide) (by rfl),JN (d:=(hxH life sg).drift) (b:=20) (e:=24) rfl (by decide) (by rfl),JN (d:=(hxH life sg).drift) (b:=20) (e:=e) rfl (by decide) he]
theorem XX{life:Int}{sg:List Sig}(h:nm life sg){e:Int}(he:max 20 (js (hxW life sg) 2 20)=e)(t:Int):fe (bM (hxH life sg)) [119,46,120] 1 t=if 0<=t/\t<e then [hxW life sg] else []:=by
 rw[On h he];unfold fe;have h1:(hxN.set.name == ([119,46,120]:List UInt8))=false:=by decide
 have h2:(hxS.set.name == ([119,46,120]:List UInt8))=false:=by decide
 have h3:((hxW life sg).set.name == ([119,46,120]:List UInt8))=true:=rfl;have h4:decide ((hxW life sg).set.type=1)=true:=rfl;have h5:fe.l1 [⟨0,e⟩] t=decide (0<=t/\t<e):=by
  rw[Bool.eq_iff_iff,YE,Qa];simp[inS]
 simp only[List.filter_cons,List.filter_nil,h1,h2,h3,h4,h5,Bool.false_and,Bool.true_and,Qa,Bool.false_eq_true,if_false];split <;> rfl
theorem Oo:max 20 (js (hxW 10 []) 2 20)=33:=by rfl
theorem XV:max 20 (js (hxW 10 [hxG]) 2 20)=28:=by rfl
theorem XW:max 20 (js (hxW 0 []) 2 20)=24:=by rfl
end Np
end Go.Proofs.YtfnopgdcaanaiaaGreatDoor
