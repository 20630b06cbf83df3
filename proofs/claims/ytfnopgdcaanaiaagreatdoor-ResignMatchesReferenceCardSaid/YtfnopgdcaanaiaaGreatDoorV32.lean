/- Parts of the proof. No condition. -/
import Derived.Test.YtfnopgdcaanaiaaGreatDoorV30
set_option linter.all false
set_option maxRecDepth 100000
set_option maxHeartbeats 8000000
namespace Go.Proofs.YtfnopgdcaanaiaaGreatDoor
open Go.Proofs.Tryz
section
open Go.RowKit Go.Shelf
theorem aiY(e:List Value)(h:Np.Hist)(w:World)(k:n9 w e h) :
 Calls prog 28 #[.agg e.toArray] w λe w'=>∃ A n c,e = .returned (.tuple #[.slice A n c,.int .i64 (Np.mv h).1])/\(Np.mv h).2.length=n/\SlR cM 8 w' w'.heap.size (.slice A n c) (Np.mv h).2/\Below w.heap.size w w':=by
 obtain⟨A1,n1,c1,A2,n2,c2,s,ty,lf,A3,n3,c3,A4,n4,c4,dr,st,rfl,-,-,-,-,-⟩:=yM k.rh;obtain⟨X,hX⟩:=aJZ w.heap.size;obtain⟨w1,ai⟩:=aJZ (w.alloc (.cells #[.slice A1 n1 c1,.slice A2 n2 c2,.string s,.int .i64 ty,.int .i64 lf,.slice A3 n3 c3,.slice A4 n4 c4,.int .i64 dr,.int .i64 st] 29));have ba:w1.heap.size=X+1:=by rw[<-ai,<-hX];simp
 have hb:Below w.heap.size w w1:=by rw[<-ai];exact (vQ _ _).alloc (bQ _) _
 have am:=jq hb;have mj:=jq (k.keep hb);have aK:=jq (lP _ _ hX ai);obtain⟨ax,qx⟩:=aJZ (Np.mv h);rw[qx];have y6:=jq qx;clear hb k qx;have k0:=aK.out 0 _ rfl;have k1:=aK.out 1 _ rfl;have k2:=aK.out 2 _ rfl;have k3:=aK.out 3 _ rfl;have k4:=aK.out 4 _ rfl;have k5:=aK.out 5 _ rfl;have k6:=aK.out 6 _ rfl;have k7:=aK.out 7 _ rfl;have k8:=aK.out 8 _ rfl;go_enter func28,ntmps28;go_wp2_with fail;clear ai;refine (UU _ h w1 mj.out).mono ?_;rintro e w2 ⟨rfl,hb⟩;have aN:=hb.size;have ah:=aIX am hb;have ld:=jq (mj.out.keep hb);have bl:=jq (aK.out.keep hb (by omega));clear hb;clear k0 k1 k2 k3 k4 k5 k6 k7 k8;have k0:=bl.out 0 _ rfl;have k1:=bl.out 1 _ rfl;have k2:=bl.out 2 _ rfl;have k3:=bl.out 3 _ rfl;have k4:=bl.out 4 _ rfl;have k5:=bl.out 5 _ rfl;have k6:=bl.out 6 _ rfl;have k7:=bl.out 7 _ rfl;have k8:=bl.out 8 _ rfl;by_cases dI:Np.VHist h
 case neg=>
  rw[Np.aS dI];have HN:=jq dI;clear dI;go_wp2_with fail;refine bodyPost_ret (v:=.tuple #[.slice none 0 0,.int .i64 1]) (by simp[results,results28,go_sem]) rfl ?_;rw[<-y6.out,Np.xV HN.out];exact⟨_,_,_,rfl,rfl,E2 _ _ _ _,ah.out⟩
 case pos=>
  rw[Np.cu dI];have kx:=jq dI;clear dI;go_wp2_with fail;refine (ajY _ h kx.out w2 ld.out).mono ?_;rintro e w3 ⟨A,n,c,rfl,hl,hr,hb⟩;have aA:=jq (ah.out.trans (hb.mono ah.out.size));have HR:=jq hr;have HL:=jq hl;have hn:n<=2100:=by rw[<-hl];unfold Np.jd;rw[List.length_map];exact ld.out.use.pubAll
  have pJ:decide ((20000:Int)<(n:Int))=false:=aKX;clear hb hr hl;go_wp2_with fail;refine bodyPost_ret (v:=.tuple #[.slice A n c,.int .i64 0]) (by simp[results,results28,go_sem]) rfl ?_;rw[<-y6.out,Np.xW kx.out];exact⟨_,_,_,rfl,HL.out,HR.out,aA.out⟩
end
end Go.Proofs.YtfnopgdcaanaiaaGreatDoor
