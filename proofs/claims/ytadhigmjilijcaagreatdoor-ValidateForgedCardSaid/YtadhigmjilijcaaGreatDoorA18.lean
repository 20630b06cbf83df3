/- No condition. -/
import Derived.Test.YtadhigmjilijcaaGreatDoorA14
import Derived.Test.YtadhigmjilijcaaGreatDoorA15
import Derived.Test.YtadhigmjilijcaaGreatDoorA16
import Derived.Test.YtadhigmjilijcaaGreatDoorA17
set_option linter.all false
set_option maxRecDepth 100000
set_option maxHeartbeats 8000000
namespace Go.Proofs.YtadhigmjilijcaaGreatDoor
open Go.Proofs.Tryz
section
open Go.RowKit Go.MapKept
def tZ(r n:Nat)(w:World):Prop:=∃ es c kvs,w.heap[r]?=some (.map es c)/\es.toList.map (λe=>(e.key,e.val))=(kvs:List (List UInt8×Value)).map (λp=>(bl p.1,p.2))/\es.size<=n
theorem tZ.lt{r n:Nat}{w:World}(h:tZ r n w):r<w.heap.size:=by
 obtain⟨es,c,kvs,h,_⟩:=h;exact (eQ.1 h).1
theorem tZ.keep{r k:Nat}{w w':World}{n:Nat}(h:tZ r k w)(hb:Below n w w')(hn:r<n):tZ r k w':=by
 obtain⟨es,c,kvs,h,h2⟩:=h;exact⟨es,c,kvs,(hb.block r hn).trans h,h2⟩
theorem tZ.made(w:World):tZ w.heap.size 0 (w.alloc (.map #[] 0)):=⟨#[],0,[],heap_alloc_new _ _,rfl,bQ _⟩
theorem Xw(x:List UInt8):∀ (es:List MapEntry) (kvs:List (List UInt8×Value)) (i:Nat),es.map (λe=>(e.key,e.val))=kvs.map (λp=>(bl p.1,p.2))->
 (∃ j e,es[j]?=some e/\e.key=bl x/\Instr.findNow .string (bl x) es i=some (some (i+j,e.val)))\/Instr.findNow .string (bl x) es i=some none:=by
 intro es
 induction es with
 | nil=>
  intro kvs i h;exact .inr rfl
 | cons e es ih=>
  intro kvs i h
  cases kvs with
  | nil=>simp at h
  | cons p kvs=>
   obtain⟨y,u⟩:=p;simp only[List.map_cons,List.cons.injEq,Prod.mk.injEq] at h;obtain⟨⟨h1,h2⟩,h3⟩:=h;have hs:Instr.sameNow .string (bl x) e.key=some (x == y):=by rw[h1];simp only[Instr.sameNow];rw[Qz]
   by_cases dE:x=y
   ·subst dE;have hb:(x == x)=true:=by simp
    rw[hb] at hs;exact .inl ⟨0,e,rfl,h1,by simp only[Instr.findNow,hs];rfl⟩
   ·have hb:(x == y)=false:=by simpa using dE
    rw[hb] at hs;rcases ih kvs (i+1) h3 with ⟨j,e',j1,j2,j3⟩ | h4
    ·exact .inl ⟨j+1,e',by simpa using j1,j2,by simp only[Instr.findNow,hs];rw[j3,show i+1+j=i+(j+1) by omega]⟩
    ·exact .inr (by simp only[Instr.findNow,hs];exact h4)
theorem agQ(a:ByteArray)(P:Program)(w:World):(Instr.keyThatStays (.string a) (.string a)).run P w = .ok (.string a) w:=by
 have h1:(a == a)=true:=by
  show (a.data == a.data)=true;simp
 have:Instr.sameBits 10000 (.string a) (.string a)=true:=by simp[Instr.sameBits,h1]
 simp[Instr.keyThatStays,this]
section
variable {P:Program} {ops:Array Oper} {rest:List Oper} {o:Oper} {a:Act} {Q:Exit->Act->World->Prop}
end

end
section
open Go.RowKit
theorem aY.formL{α:Type}{R:aUJ α}{sz:Nat}{e:TypeId}{base B:Nat}{w:World}{v:Value}{xs:List α}(h:aY R sz e base B w v xs):∃ A c,v = .slice A xs.length c:=by
 obtain⟨rows,_,h2,_⟩:=h;exact rz h2
theorem aY.setLow{α:Type}{R:aUJ α}{sz:Nat}{e:TypeId}{base B:Nat}{w:World}{v:Value}{xs:List α}(h:aY R sz e base B w v xs)(hr:∀ w' r x,R w B r x->R w' B r x){p:Addr}(hp:p.block<base)(u:Value):aY R sz e base B (w.setCell p u) v xs:=by
 obtain⟨rows,h1,h2,h3⟩:=h;exact⟨rows,h1,ownsRow_setCell_below h2 hp u,λi r x hr' hx=>⟨(h3 i r x hr' hx).1,hr _ _ _ (h3 i r x hr' hx).2⟩⟩
theorem aY.sans{α:Type}{R:aUJ α}{sz:Nat}{e:TypeId}{base B:Nat}{w:World}{v:Value}{xs:List α}(h:aY R sz e base B w v xs){M:Nat->Prop}(hM:∀ k,M k->k<base)(hr:∀ r x,R w B r x->R (cB w M) B r x):aY R sz e base B (cB w M) v xs:=by
 obtain⟨rows,h1,h2,h3⟩:=h;exact⟨rows,h1,vl h2 (λg hg=>pa (λhm=>by have:=(h2.lt g hg).1;have:=hM g hm;omega)),λi r x hr' hx=>⟨(h3 i r x hr' hx).1,hr _ _ (h3 i r x hr' hx).2⟩⟩
def D8(n:Nat)(w:World)(dv sv:Value)(d:List Np.Datum)(g:List Np.Sig):Prop:=∀ M:Nat->Prop,(∀ k,M k->k<n)->SlR bS 3 (cB w M) w.heap.size dv d/\SlR dw 6 (cB w M) w.heap.size sv g
end
section
open Go.RowKit Go.MapKept

end
section
open Go.RowKit
theorem L5(s:ByteArray)(ty life:Int)(dv:Value)(d:List Np.Datum)(sv:Value)(g:List Np.Sig)(wM:d.length<=1000000)(kV:g.length<=1000000)(w:World)(hd:SlR bS 3 w w.heap.size dv d)(hg:SlR dw 6 w w.heap.size sv g) :
 Calls prog 38 #[.agg #[.string s,.int .i64 ty,.int .i64 life,dv,sv]] w λe w'=>∃ dv' sv',e = .returned (.agg #[.string s,.int .i64 ty,.int .i64 life,dv',sv'])/\D8 w.heap.size w' dv' sv' d g/\Below w.heap.size w w':=by
 have HD:=jq hd;have HG:=jq hg;obtain⟨A1,c1,rfl,_,_⟩:=fc hd;obtain⟨A2,c2,rfl,_,_⟩:=fc hg;clear hd hg;obtain⟨n1,wZ⟩:=aRZ d.length;obtain⟨n2,fG⟩:=aRZ g.length;rw[wZ] at HD |-;rw[fG] at HG |-;clear wZ fG;obtain⟨w1,ah⟩:=aRZ ((w.alloc (.cells #[.string s,.int .i64 ty,.int .i64 life,.slice A1 n1 c1,.slice A2 n2 c2] 44)).alloc (.cells #[.string ⟨#[]⟩,.int .i64 0,.int .i64 0,.slice none 0 0,.slice none 0 0] 44));have aH:Hid (Below w.heap.size w w1):=jq (by rw[<-ah];exact (blAl).alloc (by simp) _);have bx:w1.heap.size=w.heap.size+2:=by rw[<-ah];simp
 obtain⟨X,hX⟩:=aRZ w.heap.size;obtain⟨Y,hY⟩:=aRZ (X+1);obtain⟨k0,k1,k2,k3,k4⟩:=cRow5 w1 X (.string s) (.int .i64 ty) (.int .i64 life) (.slice A1 n1 c1) (.slice A2 n2 c2) (by rw[<-ah,<-hX];simp[go_sem]);have kf3:w1.frozen? ⟨X,3,none⟩=false:=by rw[<-ah,<-hX];simp[go_sem]
 have kf4:w1.frozen? ⟨X,4,none⟩=false:=by rw[<-ah,<-hX];simp[go_sem]
 have De:w1.heap[Y]?=some (.cells #[.string ⟨#[]⟩,.int .i64 0,.int .i64 0,.slice none 0 0,.slice none 0 0] 44):=by
  rw[<-ah,<-hY,<-hX]
  have:=heap_alloc_new (w.alloc (.cells #[.string s,.int .i64 ty,.int .i64 life,.slice A1 n1 c1,.slice A2 n2 c2] 44)) (.cells #[.string ⟨#[]⟩,.int .i64 0,.int .i64 0,.slice none 0 0,.slice none 0 0] 44)
  simpa using this
 have Fb:=jq hX;go_enter func38,ntmps38;go_wp2_with fail;rw[hX] at HD HG aH bx;clear ah hX;refine (Wi _ d wM _ ((HD.out.keep br aH.out).more bB (by omega))).mono ?_;rintro e w2 ⟨v2,rfl,oG,ag⟩;have cr:=ag.size;replace k0:=aQY ag k0;replace k1:=aQY ag k1;replace k2:=aQY ag k2;replace k3:=aQY ag k3;replace k4:=aQY ag k4;replace kf3:=(ag.frozen (p:=⟨X,3,none⟩) (by dsimp only;omega)).trans kf3;replace kf4:=(ag.frozen (p:=⟨X,4,none⟩) (by dsimp only;omega)).trans kf4;replace De:=(ag.block Y (by omega)).trans De;have yj:=jq oG;have ax:=aRQ aH ag;obtain⟨A3,c3,rfl⟩:=oG.formL;clear oG ag;obtain⟨n3,zV⟩:=aRZ d.length;rw[zV] at yj |-;obtain⟨w3,ci⟩:=aRZ (w2.setCell ⟨X,3,none⟩ (.slice A3 n3 c3));have nJ:w3.heap.size=w2.heap.size:=by rw[<-ci];simp
 have am:Hid (Below X w w3):=jq (by rw[<-ci];exact ax.out.setCell (bQ _) _);have pu:Hid (aY bS 3 75 w1.heap.size w1.heap.size w3 (.slice A3 n3 c3) d):=jq (by rw[<-ci];exact yj.out.setLow (λ_ _ _ h=>h) (by dsimp only;omega) _);have j0:w3.cell? ⟨X,0,none⟩=some (.string s):=by rw[<-ci];exact (xQ _ _ _ _ (by simp)).trans k0
 have j1:w3.cell? ⟨X,1,none⟩=some (.int .i64 ty):=by rw[<-ci];exact (xQ _ _ _ _ (by simp)).trans k1
 have j2:w3.cell? ⟨X,2,none⟩=some (.int .i64 life):=by rw[<-ci];exact (xQ _ _ _ _ (by simp)).trans k2
 have j3:w3.cell? ⟨X,3,none⟩=some (.slice A3 n3 c3):=by rw[<-ci];exact World.cell?_setCell_same _ _ _ k3
 have j4:w3.cell? ⟨X,4,none⟩=some (.slice A2 n2 c2):=by rw[<-ci];exact (xQ _ _ _ _ (by simp)).trans k4
 have jf4:w3.frozen? ⟨X,4,none⟩=false:=by rw[<-ci];exact (World.frozen?_setCell _ _ _ _).trans kf4
 have jobj:=(wQ w2 ⟨X,3,none⟩ (.slice A3 n3 c3) Y (by dsimp only;omega)).trans De;rw[ci] at jobj;go_wp2_with fail;clear ci k0 k1 k2 k3 k4 kf3 kf4 De;refine (Wj _ g kV _ ((HG.out.keep cK am.out).more da (by omega))).mono ?_;rintro e w4 ⟨v4,rfl,ra,av⟩;have ve:=av.size;replace j0:=aQY av j0;replace j1:=aQY av j1;replace j2:=aQY av j2;replace j3:=aQY av j3;replace j4:=aQY av j4;replace jf4:=(av.frozen (p:=⟨X,4,none⟩) (by dsimp only;omega)).trans jf4;replace jobj:=(av.block Y (by omega)).trans jobj;have nV:=jq ra;have ir:=jq (pu.out.keep br av (by omega));have aF:=aRQ am av;obtain⟨A4,c4,rfl⟩:=ra.formL;clear ra av;obtain⟨n4,Zk⟩:=aRZ g.length;rw[Zk] at nV |-;obtain⟨w5,bc⟩:=aRZ (w4.setCell ⟨X,4,none⟩ (.slice A4 n4 c4));have th:w5.heap.size=w4.heap.size:=by rw[<-bc];simp
 have aK:Hid (Below X w w5):=jq (by rw[<-bc];exact aF.out.setCell (bQ _) _);have gB:Hid (aY dw 6 56 w3.heap.size w3.heap.size w5 (.slice A4 n4 c4) g):=jq (by rw[<-bc];exact nV.out.setLow (λ_ _ _ h=>h) (by dsimp only;omega) _);have Tk:Hid (aY bS 3 75 w1.heap.size w1.heap.size w5 (.slice A3 n3 c3) d):=jq (by rw[<-bc];exact ir.out.setLow (λ_ _ _ h=>h) (by dsimp only;omega) _);have m0:w5.cell? ⟨X,0,none⟩=some (.string s):=by rw[<-bc];exact (xQ _ _ _ _ (by simp)).trans j0
 have m1:w5.cell? ⟨X,1,none⟩=some (.int .i64 ty):=by rw[<-bc];exact (xQ _ _ _ _ (by simp)).trans j1
 have m2:w5.cell? ⟨X,2,none⟩=some (.int .i64 life):=by rw[<-bc];exact (xQ _ _ _ _ (by simp)).trans j2
 have m3:w5.cell? ⟨X,3,none⟩=some (.slice A3 n3 c3):=by rw[<-bc];exact (xQ _ _ _ _ (by simp)).trans j3
 have m4:w5.cell? ⟨X,4,none⟩=some (.slice A4 n4 c4):=by rw[<-bc];exact World.cell?_setCell_same _ _ _ j4
 have mobj:=(wQ w4 ⟨X,4,none⟩ (.slice A4 n4 c4) Y (by dsimp only;omega)).trans jobj;rw[bc] at mobj;have y0:w5.cell? ⟨Y,0,none⟩=some (.string ⟨#[]⟩):=by simp[World.cell?,mobj]
 have z0:w5.frozen? ⟨Y,0,none⟩=false:=by simp[World.frozen?,mobj]
 have y1:w5.cell? ⟨Y,1,none⟩=some (.int .i64 0):=by simp[World.cell?,mobj]
 have z1:w5.frozen? ⟨Y,1,none⟩=false:=by simp[World.frozen?,mobj]
 have y2:w5.cell? ⟨Y,2,none⟩=some (.int .i64 0):=by simp[World.cell?,mobj]
 have z2:w5.frozen? ⟨Y,2,none⟩=false:=by simp[World.frozen?,mobj]
 have y3:w5.cell? ⟨Y,3,none⟩=some (.slice none 0 0):=by simp[World.cell?,mobj]
 have z3:w5.frozen? ⟨Y,3,none⟩=false:=by simp[World.frozen?,mobj]
 have y4:w5.cell? ⟨Y,4,none⟩=some (.slice none 0 0):=by simp[World.cell?,mobj]
 have z4:w5.frozen? ⟨Y,4,none⟩=false:=by simp[World.frozen?,mobj]
 go_wp2_with fail;obtain⟨W,hW⟩:=aRZ (((((w5.setCell ⟨Y,0,none⟩ (.string s)).setCell ⟨Y,1,none⟩ (.int .i64 ty)).setCell ⟨Y,2,none⟩ (.int .i64 life)).setCell ⟨Y,3,none⟩ (.slice A3 n3 c3)).setCell ⟨Y,4,none⟩ (.slice A4 n4 c4));have Tn:Hid (aY bS 3 75 w1.heap.size w1.heap.size W (.slice A3 n3 c3) d):=jq (by rw[<-hW];exact (((((Tk.out.setLow (λ_ _ _ h=>h) (by dsimp only;omega) _).setLow (λ_ _ _ h=>h) (by dsimp only;omega) _).setLow (λ_ _ _ h=>h) (by dsimp only;omega) _).setLow (λ_ _ _ h=>h) (by dsimp only;omega) _).setLow (λ_ _ _ h=>h) (by dsimp only;omega) _));have yl:Hid (aY dw 6 56 w3.heap.size w3.heap.size W (.slice A4 n4 c4) g):=jq (by rw[<-hW];exact (((((gB.out.setLow (λ_ _ _ h=>h) (by dsimp only;omega) _).setLow (λ_ _ _ h=>h) (by dsimp only;omega) _).setLow (λ_ _ _ h=>h) (by dsimp only;omega) _).setLow (λ_ _ _ h=>h) (by dsimp only;omega) _).setLow (λ_ _ _ h=>h) (by dsimp only;omega) _));have bU:Hid (Below X w W):=jq (by rw[<-hW];exact (((((aK.out.blSe _).blSe _).blSe _).blSe _).blSe _));have Z5:W.heap.size=w5.heap.size:=by rw[<-hW];simp
 have e0:W.cell? ⟨Y,0,none⟩=some (.string s):=by rw[<-hW];simp[go_sem,y0]
 have e1:W.cell? ⟨Y,1,none⟩=some (.int .i64 ty):=by rw[<-hW];simp[go_sem,y1]
 have e2:W.cell? ⟨Y,2,none⟩=some (.int .i64 life):=by rw[<-hW];simp[go_sem,y2]
 have e3:W.cell? ⟨Y,3,none⟩=some (.slice A3 n3 c3):=by rw[<-hW];simp[go_sem,y3]
 have e4:W.cell? ⟨Y,4,none⟩=some (.slice A4 n4 c4):=by rw[<-hW];simp[go_sem,y4]
 rw[hW];refine bodyPost_ret (v:=.agg #[.string s,.int .i64 ty,.int .i64 life,.slice A3 n3 c3,.slice A4 n4 c4]) ?_ rfl ⟨_,_,rfl,λM hM=>?_,by rw[Fb.out];exact bU.out⟩
 ·simp[results,results38,go_sem,e0,e1,e2,e3,e4]
 ·have h1:=(Tn.out.sans (M:=M) (λk hk=>by have:=hM k hk;have:=Fb.out;omega) (λ_ _ h=>h)).slr bB (by rw[pb];omega) (by omega);have h2:=(yl.out.sans (M:=M) (λk hk=>by have:=hM k hk;have:=Fb.out;omega) (λ_ _ h=>h)).slr da (by rw[pb];omega) (by omega);rw[pb] at h1 h2;exact⟨h1,h2⟩
end
section
open Go.RowKit Go.MapKept

end
section
open Go.RowKit Go.MapKept Go.Shelf Go.Sort
structure Er(W:World)(X:Nat)(hv cv:Value)(stop:Int):Prop where
 c0:W.cell? ⟨X,0,none⟩=some hv
 c1:W.cell? ⟨X,1,none⟩=some cv
 c8:W.cell? ⟨X,8,none⟩=some (.int .i64 stop)
 lt:X<W.heap.size
theorem Er.keep{W W':World}{X B:Nat}{hv cv:Value}{stop:Int}(h:Er W X hv cv stop)(hb:Below B W W')(hB:X<B):Er W' X hv cv stop:=⟨(hb.cell hB).trans h.c0,(hb.cell hB).trans h.c1,(hb.cell hB).trans h.c8,lqQ h.lt hb.size⟩
end
section
open Go.RowKit Go.Sort Go.Shelf
abbrev VN:={ x:List UInt8 // Np.ao x=true }
instance:Inhabited VN:=⟨⟨[46],by decide⟩⟩
end
section
open Go.RowKit
theorem dN.keep{α:Type}{R:aUJ α}{sz:Nat}{e:TypeId}{base:Nat}{M:Nat->Prop}{w w':World}{v:Value}{xs:List α}(h:dN R sz e base M w v xs)(hk:eh R)(hs:gO R)(hm:eI R)(hb:Below w.heap.size w w'):dN R sz e base M w' v xs:=by
 refine h.leaves hk hs hm (Leaves'.of_below hb) (λg hg=>?_);obtain⟨rows,h1,h2,h3,h4⟩:=h;exact⟨hb.block g (h2.lt g hg).2,h3 g hg⟩
theorem dN.lt{α:Type}{R:aUJ α}{sz:Nat}{e:TypeId}{base:Nat}{M:Nat->Prop}{w:World}{v:Value}{xs:List α}(h:dN R sz e base M w v xs):∀ g,v.ownBlock=some g->base<=g/\g<w.heap.size:=by
 obtain⟨rows,h1,h2,h3,h4⟩:=h;exact h2.lt
theorem dN.formN{α:Type}{R:aUJ α}{sz:Nat}{e:TypeId}{base:Nat}{M:Nat->Prop}{w:World}{v:Value}{xs:List α}{n:Nat}(h:dN R sz e base M w v xs)(hn:xs.length=n):∃ A c,v = .slice A n c:=by
 subst hn;exact h.form
theorem P8:∀ (w:World) (B:Nat) (r:List Value) (y:Np.Signed),aB w B r y->∀ u∈r,u.oneCell'=true:=λw B r y ⟨s,v,u',_,_,h3,h4,h5⟩ u hu=>by
 obtain⟨A,c,rfl,_⟩:=fc h3;obtain⟨A',c',rfl,_⟩:=fc h4;rw[h5] at hu;simp only[List.mem_cons,Qh,or_false] at hu;rcases hu with rfl | rfl | rfl | rfl | rfl<;>rfl
theorem dN.slr_sans{α:Type}{R:aUJ α}{sz:Nat}{e:TypeId}{base:Nat}{M M':Nat->Prop}{w:World}{v:Value}{xs:List α}(hs:gO R)(hm:eI R)(h:dN R sz e base M w v xs)(hM:∀ k,M' k->M k/\v.ownBlock≠some k)(hl:xs.length<=140737488355328):SlR R sz (cB w M') w.heap.size v xs:=by
 obtain⟨rows,h1,h2,h3,h4⟩:=h;have h5:aY R sz e base w.heap.size (cB w M') v xs:=⟨rows,h1,vl h2 (λg hg=>pa (λhm'=>(hM g hm').2 hg)),λi r x hr hx=>⟨(h4 i r x hr hx).1,hs _ _ _ _ _ _ (λk hk=>(hM k hk).1) (h4 i r x hr hx).2⟩⟩;have h6:=h5.slr hm (by rw[pb];exact bQ _) hl;rwa [pb] at h6
theorem Leaves'.slr{α:Type}{R:aUJ α}{sz:Nat}(hk:eh R)(hs:gO R)(hm:eI R){M M':Nat->Prop}{w w':World}(h:Leaves' M w w' M'){v:Value}{xs:List α}(hr:SlR R sz (cB w M) w.heap.size v xs):SlR R sz (cB w' M') w'.heap.size v xs:=by
 have hb:Below w.heap.size (cB w M) (cB w' λk=>M k\/M' k):=by
  refine⟨h.os,h.tape,h.output,by rw[pb,pb];exact h.size,λk hk=>?_⟩;by_cases hm:M k
  ·rw[vp hm,vp (Or.inl hm)];have h1:k<w'.heap.size:=lqQ hk h.size;simp[hk,h1]
  ·have hk':=h.keep k hk hm;rw[pa hm,pa (λe=>e.elim hm hk'.1)];exact hk'.2
 exact ((hr.keep hk hb).more hm h.size).sans hs (λ_ e=>.inr e)
def I6{α:Type}(R:aUJ α)(B n:Nat)(w:World)(e:List Value)(x:α):Prop:=∀ M:Nat->Prop,(∀ k,M k->B<=k/\k<n)->R (cB w M) w.heap.size e x
def jI{α:Type}(R:aUJ α)(sz B n:Nat)(w:World)(v:Value)(xs:List α):Prop:=∀ M:Nat->Prop,(∀ k,M k->B<=k/\k<n)->SlR R sz (cB w M) w.heap.size v xs
theorem I6.all{α:Type}{R:aUJ α}{B n:Nat}{w:World}{e:List Value}{x:α}(h:I6 R B n w e x)(hs:gO R):R w w.heap.size e x:=hs.all (h (λ_=>False) (λ_ e=>e.elim))
theorem jI.all{α:Type}{R:aUJ α}{sz B n:Nat}{w:World}{v:Value}{xs:List α}(h:jI R sz B n w v xs)(hs:gO R):SlR R sz w w.heap.size v xs:=(h (λ_=>False) (λ_ e=>e.elim)).all hs
theorem aBJ{α:Type}(R:aUJ α)(sz:Nat)(w:World)(B:Nat):SlR R sz w B (.slice none 0 0) []:=⟨none,0,rfl,by simp,by simp,λi x hx=>by simp at hx⟩
theorem Wb(w:World)(l:List Value)(T:TypeId):eB (w.alloc (.cells l.toArray T)) w.heap.size 0 l:=λj v hj=>by
 have h:=heap_alloc_new w (.cells l.toArray T);unfold World.cell?;rw[h,Nat.zero_add];simpa using hj
theorem eB.off{w:World}{b o:Nat}{e:List Value}(h:eB w b o e){M:Nat->Prop}(hM:¬ M b):eB (cB w M) b o e:=λj v hj=>(iQ (a:=⟨b,o+j,none⟩) (pa hM)).trans (h j v hj)
theorem V3{α:Type}{R:aUJ α}{sz:Nat}{p:Nat->Prop}{w w':World}{v:Value}{xs:List α}(h:∀ M:Nat->Prop,(∀ k,M k->p k)->SlR R sz (cB w M) w.heap.size v xs)(hk:eh R)(hm:eI R)(hb:Below w.heap.size w w'){M:Nat->Prop}(hM:∀ k,M k->p k\/w.heap.size<=k):SlR R sz (cB w' M) w'.heap.size v xs:=by
 have h1:=h (λk=>M k/\k<w.heap.size) (λk e=>(hM k e.1).resolve_right (by omega));refine (h1.keep hk ?_).more hm hb.size;refine⟨hb.os,hb.tape,hb.output,by rw[pb,pb];exact hb.size,λk hk=>?_⟩;by_cases hm:M k
 ·have h1:k<w'.heap.size:=lqQ hk hb.size;rw[vp hm,vp (M:=λk=>M k/\k<w.heap.size) ⟨hm,hk⟩];simp[hk,h1]
 ·rw[pa hm,pa (M:=λk=>M k/\k<w.heap.size) (λe=>hm e.1)];exact hb.block k hk
theorem V4{α:Type}{R:aUJ α}{sz cb:Nat}{p:Nat->Prop}{w w':World}{v:Value}{xs:List α}(h:∀ M:Nat->Prop,(∀ k,M k->p k)->SlR R sz (cB w M) w.heap.size v xs)(hk:eh R)(hs:gO R)(hm:eI R)(hc:p cb)(ht:Turned cb w w'):SlR R sz w' w'.heap.size v xs:=by
 have h1:=h (λk=>k=cb) (λk e=>e ▸ hc);have h2:=Leaves'.slr (M:=λk=>k=cb) (M':=λk=>k=cb) hk hs hm (w':=w') ⟨ht.os,ht.tape,ht.output,Nat.le_of_eq ht.size.symm,λi _ hi=>⟨hi,ht.block i hi⟩⟩ h1;exact (h2.sans hs (M':=λ_=>False) (λ_ e=>e.elim)).all hs
theorem jI.later{α:Type}{R:aUJ α}{sz n:Nat}{w w':World}{v:Value}{xs:List α}(h:jI R sz 0 n w v xs)(hk:eh R)(hm:eI R)(hb:Below w.heap.size w w'){M:Nat->Prop}(hM:∀ k,M k->k<n\/w.heap.size<=k):SlR R sz (cB w' M) w'.heap.size v xs:=
 V3 h hk hm hb (λk e=>(hM k e).imp (λe=>⟨jQ _,e⟩) id)
theorem jI.keep{α:Type}{R:aUJ α}{sz n:Nat}{w w':World}{v:Value}{xs:List α}(h:jI R sz 0 n w v xs)(hk:eh R)(hm:eI R)(hb:Below w.heap.size w w'):jI R sz 0 n w' v xs:=λ_ hM=>h.later hk hm hb (λk e=>.inl (hM k e).2)
theorem jI.past{α:Type}{R:aUJ α}{sz n cb:Nat}{w w':World}{v:Value}{xs:List α}(h:jI R sz 0 n w v xs)(hk:eh R)(hs:gO R)(hm:eI R)(hc:cb<n)(ht:Turned cb w w'):SlR R sz w' w'.heap.size v xs:=
 V4 h hk hs hm ⟨jQ _,hc⟩ ht
theorem jI.nil{α:Type}(R:aUJ α)(sz n:Nat)(w:World):jI R sz 0 n w (.slice none 0 0) []:=λ_ _=>aBJ _ _ _ _
theorem jI.form{α:Type}{R:aUJ α}{sz n:Nat}{w:World}{v:Value}{xs:List α}(h:jI R sz 0 n w v xs):∃ A c,v = .slice A xs.length c:=by
 obtain⟨A,c,rfl,_⟩:=fc (h (λ_=>False) (λ_ e=>e.elim));exact⟨_,_,rfl⟩

theorem L2{w w':World}{n:Nat}(l:List Value)(T:TypeId)(hn:w.heap.size=n)(he:w'=w.alloc (.cells l.toArray T)):eB w' n 0 l:=by subst hn;subst he;exact Wb w l T
structure OneAt(n:Nat)(w:World)(b:Nat)(l:List Value):Prop where
 lo:n<=b
 hi:b<w.heap.size
 cells:eB w b 0 l
theorem OneAt.keep{n:Nat}{w w':World}{b:Nat}{l:List Value}(h:OneAt n w b l)(hb:Below w.heap.size w w'):OneAt n w' b l:=⟨h.lo,lqQ h.hi hb.size,h.cells.keep hb h.hi⟩
def D6(w:World)(X:Nat)(L:List Value):Prop:=∀ i v,L[i]?=some v->w.cell? ⟨X,i,none⟩=some v
theorem D6.keep{w w':World}{X B:Nat}{L:List Value}(h:D6 w X L)(hb:Below B w w')(hX:X<B):D6 w' X L:=λi v hi=>(hb.cell (p:=⟨X,i,none⟩) hX).trans (h i v hi)
end
end Go.Proofs.YtadhigmjilijcaaGreatDoor
