/- Parts of the proof. No condition. -/
import Derived.Test.YtfnopgdcaanaiaaGreatDoorU22
set_option linter.all false
set_option maxRecDepth 100000
set_option maxHeartbeats 8000000
namespace Go.Proofs.YtfnopgdcaanaiaaGreatDoor
open Go.Proofs.Tryz
section
open Go.RowKit Go.Shelf
attribute [local go_sem] Oper.semAt_some
structure HC where
 z:ByteArray
 s:ByteArray
 ty:Int
 lf:Int
 dA:Option Addr
 dn:Nat
 dc:Nat
 gA:Option Addr
 gn:Nat
 gc:Nat
 fA:Option Addr
 fn:Nat
 fc:Nat
 pA:Option Addr
 pn:Nat
 pc:Nat
def HC.cells(x:HC):Array Value:=#[.string x.z,.string x.s,.int .i64 x.ty,.int .i64 x.lf,.slice x.dA x.dn x.dc,.slice x.gA x.gn x.gc,.slice x.fA x.fn x.fc,.slice x.pA x.pn x.pc]
structure DT(w:World)(B:Nat)(x:HC)(h:Np.Held):Prop where
 zone:x.z.data.toList=h.zone
 name:x.s.data.toList=h.signed.set.name
 short:x.s.size<=140737488355328
 type:x.ty=h.signed.set.type
 life:x.lf=h.signed.set.life
 data:SlR bW 3 w B (.slice x.dA x.dn x.dc) h.signed.set.data
 sigs:SlR cV 6 w B (.slice x.gA x.gn x.gc) h.signed.sigs
 spans:SlR cB 2 w B (.slice x.pA x.pn x.pc) h.spans
theorem DT.keep{w w':World}{B:Nat}{x:HC}{h:Np.Held}(k:DT w B x h)(hb:Below B w w'):DT w' B x h:=⟨k.zone,k.name,k.short,k.type,k.life,k.data.keep cu hb,k.sigs.keep cT hb,k.spans.keep bR hb⟩
end
section
open Go.RowKit Go.Shelf
theorem YH(u v:Value)(x y:Np.Held)(hz:x.zone=y.zone)(hs:¬ x.signed=y.signed)(w:World)(hu:SlR ea 8 w w.heap.size u [x])(hv:SlR ea 8 w w.heap.size v [y]) :
 Calls prog 32 #[u,v] w (aeJ w.heap.size w (.bool false)):=by
 have HU:=jq hu;have HV:=jq hv;have HZ:=jq hz;have HN:=jq hs;obtain⟨A,c,rfl,aW,bh⟩:=aj hu;obtain⟨A2,c2,rfl,db,cY⟩:=aj hv;clear hu hv hz hs;simp only[List.length_cons,List.length_nil,Nat.zero_add] at HU HV aW db bh cY |-;go_enter func32,ntmps32;go_wp2_with fail;go_loopw [5] (λi wr=>i = .int .i64 0/\Hid (Below w.heap.size w wr)) (λ_ _=>0)
 case atStart=>exact⟨rfl,jq (vQ _ _)⟩
 case round=>
  obtain⟨rfl,HB⟩:=hrel;obtain⟨b,o,z,s,dv,sv,fv,pv,rfl,hb,hz,hs,aR,aN,jY,kA,e0,e1,e2,e3,e4,e5,e6,e7⟩:=yK (HU.out.later jA iD HB.out) (k:=0) (x:=x) rfl;obtain⟨b',o',z',s',dv',sv',fv',pv',rfl,hb',hz',hs',tq,tO,yL,zk,f0,f1,f2,f3,f4,f5,f6,f7⟩:=yK (HV.out.later jA iD HB.out) (k:=0) (x:=y) rfl;have lF:z'=z:=jD (by rw[hz,hz',HZ.out]);subst lF;simp only[Nat.zero_mul,Nat.add_zero] at e0 e1 e2 e3 e4 e5 e6 e7 f0 f1 f2 f3 f4 f5 f6 f7;have kV:=jq aR;have DW:=jq tq;have ot:=jq aN;have EG:=jq tO;obtain⟨S1,m1,rfl,_,_⟩:=aj aN;obtain⟨S2,m2,rfl,_,_⟩:=aj tO;obtain⟨D1,n1,rfl,_,_⟩:=aj aR;obtain⟨D2,n2,rfl,_,_⟩:=aj tq;have mY:(z'.toList == z'.toList)=true:=by simp
  have fw:decide ((s=s'/\x.signed.set.type=y.signed.set.type/\x.signed.set.life=y.signed.set.life/\x.signed.set.data=y.signed.set.data)/\x.signed.sigs=y.signed.sigs)=false:=tQ (by
   rintro⟨⟨h1,h2,h3,h4⟩,h5⟩;refine HN.out ?_;obtain⟨zx,⟨⟨nx,tx,lx,dx⟩,gx⟩,fx,px⟩:=x;obtain⟨zy,⟨⟨ny,ty,ly,dy⟩,gy⟩,fy,py⟩:=y;dsimp only at h2 h3 h4 h5 hs hs' |-;subst h1 h2 h3 h4 h5;rw[<-hs,<-hs'])
  have nP:∀ (g:bi wr) (p:Addr),p.block<wr.heap.size->g.w.cell? p=wr.cell? p:=λg p h=>g.cell p h;have bE:∀ g:bi wr,Calls prog 20 #[.agg #[.string s,.int .i64 x.signed.set.type,.int .i64 x.signed.set.life,.slice D1 x.signed.set.data.length n1,.slice S1 x.signed.sigs.length m1],.agg #[.string s',.int .i64 y.signed.set.type,.int .i64 y.signed.set.life,.slice D2 y.signed.set.data.length n2,.slice S2 y.signed.sigs.length m2]] g.w λe w'=>e = .returned (.bool false)/\Below g.w.heap.size g.w w':=λg=>by
   have:=NL s s' x.signed.set.type x.signed.set.life y.signed.set.type y.signed.set.life _ _ _ _ x.signed.set.data y.signed.set.data x.signed.sigs y.signed.sigs g.w (kV.out.later cu cS g.below) (DW.out.later cu cS g.below) (ot.out.later cT dU g.below) (EG.out.later cT dU g.below)
   rwa [fw] at this
  have jH:=jq bE;clear bE fw hs hs' hz hz' aN tO aR tq jY yL kA zk;go_wp2_with fail;refine adX ?_
  repeat (go_big_quiet_step (fail))
  go_big_quiet_step ((go_at_call 20;exact Calls.grow_of (jH.out _)))
  repeat (go_big_quiet_step (fail))
  refine wpQuiet_nil ?_;rintro _ ⟨g,rfl⟩;go_wp2_with fail;go_ret;exact⟨rfl,HB.out.trans (g.below.mono HB.out.size)⟩
end
end Go.Proofs.YtfnopgdcaanaiaaGreatDoor
