/- Parts of the proof. No condition. -/
import Derived.Test.YtbfbobfbgabjiaaGreatDoorProg
import Derived.Shelf.Small.Strs
import Derived.Laws.EntriesVeiled
import Derived.Test.YtbfbobfbgabjiaaGreatDoorM02
set_option linter.all false
set_option maxRecDepth 100000
set_option maxHeartbeats 8000000
namespace Go.Proofs.YtbfbobfbgabjiaaGreatDoor
open Go.Proofs.Tryz
section
open Go.RowKit
def iW(w:World)(B:Nat):Prop:=0<B/\∀ k:Nat,k<9->cN w 0 (k * 8) (jp (Np.cm k)).toList
theorem iW.keep{w w':World}{B:Nat}(h:iW w B)(hb:Below B w w'):iW w' B:=⟨h.1,λk hk=>(h.2 k hk).keep hb h.1⟩
theorem iW.more{w:World}{B B':Nat}(h:iW w B)(hB:B<=B'):iW w B':=⟨lQ h.1 hB,h.2⟩
def cG(_:World)(_:Nat)(e:List Value)(d:Np.Datum):Prop:=∃ s:ByteArray,s.data.toList=d.text/\s.size<=140737488355328/\e = [.string s,.int .i64 d.n,.int .i64 d.m]
theorem cL:dK cG:=λ_ _ _ _ _ h _=>h
theorem dp:dV cG:=λ_ _ _ _ _ h _=>h
theorem VO{w w':World}(h:w'=w):Below w.heap.size w w':=by rw[h]; exact vQ _ _
theorem Gd(k ln mn lm mm:Int)(ev si wi:Bool)(s:ByteArray)(hs:s.size<=140737488355328)(n m:Int)(w:World)(t:Bool)(ht:Np.jX ⟨k,ln,mn,lm,mm,ev,si,wi⟩ ⟨s.data.toList,n,m⟩=t) :
 Calls prog 195 #[.agg #[.int .i64 k,.int .i64 ln,.int .i64 mn,.int .i64 lm,.int .i64 mm,.bool ev,.bool si,.bool wi],.agg #[.string s,.int .i64 n,.int .i64 m]] w
  λe w'=>e = .returned (.bool t)/\Below w.heap.size w w':=by
 subst ht;exact TK k ln mn lm mm ev si wi s hs n m w
def Zg(w1:World)(o:Obj)(r:Np.Rule)(ds:List Np.Datum)(i:Value)(wr:World):Prop:=
 ∃ j:Nat,j<=ds.length/\i = .int .i64 j/\Below (w1.alloc o).heap.size (w1.alloc o) wr/\Np.jI r none ds=Np.jI r (ds.take j).getLast? (ds.drop j)
theorem Mi(s:ByteArray)(hs:s.size<=140737488355328)(ty life:Int)(v:Value)(ds:List Np.Datum)(w:World)(hR:iW w w.heap.size)(hd:SlR cG 3 w w.heap.size v ds) :
 Calls prog 130 #[.agg #[.string s,.int .i64 ty,.int .i64 life,v]] w
  λe w'=>e = .returned (.bool (Np.ee ⟨s.data.toList,ty,life,ds⟩))/\Below w.heap.size w w':=by
 have HR:=jq hR;have HD:=jq hd;obtain⟨A,c,rfl,bC,bH,jP⟩:=hd;clear hR jP;have HF:Hid (∀ t:Bool,t=Np.ee ⟨s.data.toList,ty,life,ds⟩->(.bool t:Value) = .bool (Np.ee ⟨s.data.toList,ty,life,ds⟩)):=λt ht=>by rw[ht]
 go_enter func130,ntmps130;go_wp2_with fail;refine (nameValid_any _ hs _).mono ?_;rintro e w1 ⟨rfl,hb⟩;have da:Below w.heap.size w w1:=((vQ _ w).alloc (bQ _) _).trans (hb.mono (by simp));have an:w.heap.size+1<=w1.heap.size:=by have:=hb.size; simpa using this
 have fh:w.heap.size<w1.heap.size:=by omega
 have c0:w1.cell? ⟨w.heap.size,0,none⟩=some (.string s):=by rw[hb.cell (by simp)]; go_simp
 have c1:w1.cell? ⟨w.heap.size,1,none⟩=some (.int .i64 ty):=by rw[hb.cell (by simp)]; go_simp
 have c2:w1.cell? ⟨w.heap.size,2,none⟩=some (.int .i64 life):=by rw[hb.cell (by simp)]; go_simp
 have c3:w1.cell? ⟨w.heap.size,3,none⟩=some (.slice A ds.length c):=by rw[hb.cell (by simp)]; go_simp
 have HB:=jq hb;clear hb;by_cases dD:1<=ty/\ty<=8
 ·obtain⟨k,rfl⟩:=Int.eq_ofNat_of_zero_le (by omega:0<=ty);have hk9:k<9:=by omega
  have p7:=(HR.out.keep da).2 k hk9;have r0:w1.cell? ⟨0,k * 8,none⟩=some (.int .i64 (Np.cm k).text):=p7 0 _ rfl;have r1:w1.cell? ⟨0,k * 8+1,none⟩=some (.int .i64 (Np.cm k).leastN):=p7 1 _ rfl;have r2:w1.cell? ⟨0,k * 8+2,none⟩=some (.int .i64 (Np.cm k).mostN):=p7 2 _ rfl;have r3:w1.cell? ⟨0,k * 8+3,none⟩=some (.int .i64 (Np.cm k).leastM):=p7 3 _ rfl;have r4:w1.cell? ⟨0,k * 8+4,none⟩=some (.int .i64 (Np.cm k).mostM):=p7 4 _ rfl;have r5:w1.cell? ⟨0,k * 8+5,none⟩=some (.bool (Np.cm k).even):=p7 5 _ rfl;have r6:w1.cell? ⟨0,k * 8+6,none⟩=some (.bool (Np.cm k).single):=p7 6 _ rfl;have r7:w1.cell? ⟨0,k * 8+7,none⟩=some (.bool (Np.cm k).wild):=p7 7 _ rfl;clear p7;go_wp2_with (first
   | (go_at_call 193; refine (GA _ _ _ _).mono ?_; rintro e w' ⟨rfl,rfl⟩)
   | (go_at_call 194; refine (LT _ hs _).mono ?_; rintro e w' ⟨rfl,rfl⟩))
  all_goals first
   | (go_ret
      go_light;refine⟨aj ?_,by first | exact da | exact da.alloc (by omega) _⟩;simp_all [Np.ee] <;> (intros; omega))
   | skip
  all_goals
   have hv:Np.ee ⟨s.data.toList,k,life,ds⟩=Np.jI (Np.cm k) none ds:=by
    go_light;simp_all [Np.ee] <;> (intros; omega)
  rotate_left 3
  all_goals
   have HV:=jq hv;clear hv HF;go_loopw [52] (λi wr=>Zg w1 (Obj.cells (jp (Np.cm k)) 237) (Np.cm k) ds i wr) (λi _=>ds.length - (intOf i).toNat)
   case atStart=>
    refine⟨0,jQ _,rfl,VO ?_,rfl⟩;go_light;simp_all [jp]
   case round=>
    obtain⟨j,hj,rfl,aw,hg⟩:=hrel;have HG:=jq hg;clear hg;by_cases ab:j<ds.length
    ·have K9:=aw.size;simp only[World.size_alloc] at K9;have mj:Below w.heap.size w wr:=(da.alloc (by omega) _).trans (aw.mono (by simp; omega));have hw0:w.heap.size<wr.heap.size:=by omega
     have al:w1.heap.size<wr.heap.size:=by omega
     have d3:wr.cell? ⟨w.heap.size,3,none⟩=some (.slice A ds.length c):=by rw[aw.cell (by simp; omega)]; rw[World.cell?_alloc_lt _ _ _ (by simpa using fh)]; exact c3
     have q0:wr.cell? ⟨w1.heap.size,0,none⟩=some (.int .i64 (Np.cm k).text):=by rw[aw.cell (by simp)]; exact World.cell?_alloc_new w1 _ _ _
     have q1:wr.cell? ⟨w1.heap.size,1,none⟩=some (.int .i64 (Np.cm k).leastN):=by rw[aw.cell (by simp)]; exact World.cell?_alloc_new w1 _ _ _
     have q2:wr.cell? ⟨w1.heap.size,2,none⟩=some (.int .i64 (Np.cm k).mostN):=by rw[aw.cell (by simp)]; exact World.cell?_alloc_new w1 _ _ _
     have q3:wr.cell? ⟨w1.heap.size,3,none⟩=some (.int .i64 (Np.cm k).leastM):=by rw[aw.cell (by simp)]; exact World.cell?_alloc_new w1 _ _ _
     have q4:wr.cell? ⟨w1.heap.size,4,none⟩=some (.int .i64 (Np.cm k).mostM):=by rw[aw.cell (by simp)]; exact World.cell?_alloc_new w1 _ _ _
     have q5:wr.cell? ⟨w1.heap.size,5,none⟩=some (.bool (Np.cm k).even):=by rw[aw.cell (by simp)]; exact World.cell?_alloc_new w1 _ _ _
     have q6:wr.cell? ⟨w1.heap.size,6,none⟩=some (.bool (Np.cm k).single):=by rw[aw.cell (by simp)]; exact World.cell?_alloc_new w1 _ _ _
     have q7:wr.cell? ⟨w1.heap.size,7,none⟩=some (.bool (Np.cm k).wild):=by rw[aw.cell (by simp)]; exact World.cell?_alloc_new w1 _ _ _
     obtain⟨A',c',hA',_,_,bU⟩:=HD.out.keep cL mj
     cases hA'
     obtain⟨b,o,e,rfl,bg,_,hce,sd,ur,uh,rfl⟩:=bU j _ (aQ ab);have e0:wr.cell? ⟨b,o+j * 3,none⟩=some (.string sd):=hce 0 _ rfl;have e1:wr.cell? ⟨b,o+j * 3+1,none⟩=some (.int .i64 ds[j].n):=hce 1 _ rfl;have e2:wr.cell? ⟨b,o+j * 3+2,none⟩=some (.int .i64 ds[j].m):=hce 2 _ rfl;have dF:b<wr.heap.size:=by omega
     have ay:=jq aw;have aD:=jq mj;have Kp:=jq bU;have sP:=jq ur;clear hce aw mj bU ur c0 c1 c2 c3 r0 r1 r2 r3 r4 r5 r6 r7;go_wp2_with fail;have p0:=World.cell?_alloc_new wr #[.string sd,.int .i64 ds[j].n,.int .i64 ds[j].m] 96 0;have p1:=World.cell?_alloc_new wr #[.string sd,.int .i64 ds[j].n,.int .i64 ds[j].m] 96 1;have p2:=World.cell?_alloc_new wr #[.string sd,.int .i64 ds[j].n,.int .i64 ds[j].m] 96 2;have keep:∀ b o,b<wr.heap.size->(wr.alloc (.cells #[.string sd,.int .i64 ds[j].n,.int .i64 ds[j].m] 96)).cell? ⟨b,o,none⟩=wr.cell? ⟨b,o,none⟩:=λb o h=>World.cell?_alloc_lt _ _ _ h;have tV:(wr.alloc (.cells #[.string sd,.int .i64 ds[j].n,.int .i64 ds[j].m] 96)).heap.size=wr.heap.size+1:=World.size_alloc _ _;have eF:Below wr.heap.size wr (wr.alloc (.cells #[.string sd,.int .i64 ds[j].n,.int .i64 ds[j].m] 96)):=(vQ _ _).alloc (bQ _) _;generalize wr.alloc (.cells #[.string sd,.int .i64 ds[j].n,.int .i64 ds[j].m] 96)=wx at p0 p1 p2 keep tV eF |-;have fz:w.heap.size<wx.heap.size:=by omega
     have fB:w1.heap.size<wx.heap.size:=by omega
     have nk:wr.heap.size<wx.heap.size:=by omega
     have qK:b<wx.heap.size:=by omega
     have kq:∀ (g:bE wx) (p:Addr),p.block<wx.heap.size->g.w.cell? p=wx.cell? p:=λg p h=>g.cell p h;have dI:=jq eF;clear eF tV;have CP:(⟨sd.data.toList,ds[j].n,ds[j].m⟩:Np.Datum)=ds[j]:=by rw[sP.out]
     have th:=jq CP;clear CP;by_cases pR:Np.jX (Np.cm k) ⟨sd.data.toList,ds[j].n,ds[j].m⟩=true
     ·have lG:=jq pR;clear pR;by_cases jx:j=0
      ·subst jx;refine en (by kernel_rfl) (by kernel_rfl) ?_
       repeat (go_big_quiet_step ((go_at_call 195; exact Calls.grow_of (Gd _ _ _ _ _ _ _ _ _ uh _ _ _ true lG.out))))
       refine wpQuiet_nil ?_;rintro _ ⟨g,rfl⟩;go_wp2_with fail;go_roundw
       case rel=>
        go_light;have h1:=Np.LU (r:=Np.cm k) (aQ ab) (by rw[<-th.out]; exact lG.out);exact⟨1,ab,by go_num,ay.out.trans ((dI.out.trans (g.below.mono (by omega))).mono (by simp; omega)),by rw[<-h1]; exact HG.out⟩
       case measure=>simp[intOf] <;> omega
      ·obtain⟨i,rfl⟩:∃ i,j=i+1:=⟨j - 1,by omega⟩
       try (exfalso; omega)
       all_goals
        obtain⟨b',o',e',pZ,xP,_,pk,sq,ll,a0Q,rfl⟩:=Kp.out i _ (aQ (by omega))
        cases pZ
        have f0:wr.cell? ⟨b,o+i * 3,none⟩=some (.string sq):=pk 0 _ rfl;have f1:wr.cell? ⟨b,o+i * 3+1,none⟩=some (.int .i64 (ds[i]'(by omega)).n):=pk 1 _ rfl;have f2:wr.cell? ⟨b,o+i * 3+2,none⟩=some (.int .i64 (ds[i]'(by omega)).m):=pk 2 _ rfl;have Cy:(⟨sq.data.toList,(ds[i]'(by omega)).n,(ds[i]'(by omega)).m⟩:Np.Datum)=ds[i]'(by omega):=by rw[ll]
        have Kc:=jq Cy;clear pk ll Cy;refine en (by kernel_rfl) (by kernel_rfl) ?_
        repeat (go_big_quiet_step (first
         | (go_at_call 195; exact Calls.grow_of (Gd _ _ _ _ _ _ _ _ _ uh _ _ _ true lG.out))
         | (go_at_call 196; exact Calls.grow_of (TG _ _ _ _ _ _ _))))
        refine wpQuiet_nil ?_;rintro _ ⟨g,rfl⟩;have h1:=Np.L6 (r:=Np.cm k) (aQ (by omega:i<ds.length)) (aQ ab) (by rw[<-th.out]; exact lG.out);rw[<-th.out,<-Kc.out] at h1;have H1:=jq h1;clear h1;go_wp2_with fail
        ·go_ret;refine⟨aj ?_,aD.out.trans ((dI.out.trans (g.below.mono (by omega))).mono (by omega))⟩;rw[HV.out,HG.out,H1.out,Qc (by omega)]
        ·go_roundw
         case rel=>
          go_light;exact⟨i+1+1,ab,by go_num,ay.out.trans ((dI.out.trans (g.below.mono (by omega))).mono (by simp; omega)),by rw[HG.out,H1.out,Qb (by omega)]⟩
         case measure=>simp[intOf] <;> omega
     ·have AW:Np.jX (Np.cm k) ⟨sd.data.toList,ds[j].n,ds[j].m⟩=false:=by simpa using pR
      have lG:=jq AW;clear pR AW;refine en (by kernel_rfl) (by kernel_rfl) ?_
      repeat (go_big_quiet_step ((go_at_call 195; exact Calls.grow_of (Gd _ _ _ _ _ _ _ _ _ uh _ _ _ false lG.out))))
      refine wpQuiet_nil ?_;rintro _ ⟨g,rfl⟩;go_wp2_with fail;go_ret;refine⟨aj ?_,aD.out.trans ((dI.out.trans (g.below.mono (by omega))).mono (by omega))⟩;rw[HV.out,HG.out,Np.Mk (aQ ab) (by rw[<-th.out]; exact lG.out)]
    ·go_wp2_with fail;go_ret;refine⟨aj ?_,(da.alloc (by omega) _).trans (aw.mono (by simp; omega))⟩;rw[HV.out,HG.out,List.drop_eq_nil_of_le (by omega)];rfl
 ·have hv:Np.ee ⟨s.data.toList,ty,life,ds⟩=false:=by
   simp only[Np.ee]
   have:(decide (1<=ty)&&decide (ty<=8))=false:=by simp; omega
   rw[this]; simp
  have HV:=jq hv;clear hv;have bdY:(decide (1<=ty)&&decide (ty<=8))=false:=by simp; omega
  go_wp2_with (first
   | (go_at_call 193; refine (GA _ _ _ _).mono ?_; rintro e w' ⟨rfl,rfl⟩))
  all_goals
   go_ret;exact⟨aj HV.out.symm,da⟩
end
namespace Np
structure Sig where
 zone:List UInt8
 key:Int
 alg:Int
 frm:Int
 til:Int
 sum:Int
deriving DecidableEq
structure Signed where
 set:DSet
 sigs:List Sig
deriving DecidableEq
structure Span where
 frm:Int
 til:Int
deriving DecidableEq
def Zl(g x:Sig):Bool:=(x.frm != g.frm)||(x.til != g.til)
def XC:List Sig->Bool
 | []=>true
 | g::r=>!(decide (g.frm<0)||decide (g.til<g.frm)||decide (20000000<g.til))&&!((g::r).any (Zl g))
def plain(s:Signed):Bool:=ee s.set&&decide (s.sigs.length<=6)&&XC s.sigs
def GY(length drift life:Int):Int:=length - max life 1 - 3 * drift+2
def Hf(begin stop length drift life:Int):Prop:=0<=drift/\drift<=1000/\1<=stop/\stop<=10000000/\drift<=begin/\begin<=stop - 1/\1<=length/\length<=10000000/\0<=life/\life<=100000
instance (b s l d f:Int):Decidable (Hf b s l d f):=by unfold Hf; infer_instance
def NN(b s k:Int):List Int:=(List.range ((s - b+k - 1) / k).toNat).map λ(i:Nat)=>b+i * k
def Yu(b s l d f:Int):Int:=if Hf b s l d f then (if GY l d f<1 then 32 else if 400<(NN b s (GY l d f)).length then 2 else 0) else 1
def times(b s l d f:Int):List Int:=if Yu b s l d f=0 then NN b s (GY l d f) else []
def cls(c:UInt8):Nat:=
 if c=32\/c=9\/c=10 then 1 else if c=35 then 2 else if qC c||nI c||c == 42 then 3 else if c=45 then 4 else if c=46 then 5 else if c=34 then 6
 else if c=123\/c=125\/c=59\/c=44\/c=61\/c=64 then 7 else 0
def rM(c:UInt8):Bool:=cls c == 3||cls c == 4||cls c == 5
def Pi(c:UInt8):Bool:=c != 10
def Ig(c:UInt8):Bool:=c != 34&&c != 10
def Z7(r:List UInt8):Nat:=if 1<=(r.takeWhile Ig).length/\r[(r.takeWhile Ig).length]?=some 34 then (r.takeWhile Ig).length+2 else 0
def Po:List UInt8->Nat
 | []=>0
 | c::r=>match cls c with
   | 1=>1
   | 2=>((c::r).takeWhile Pi).length
   | 3=>((c::r).takeWhile rM).length
   | 5=>if ((c::r).takeWhile rM).length=1 then 1 else 0
   | 6=>Z7 r
   | 7=>1
   | _=>0
structure Tok where
 kind:Int
 text:List UInt8
 n:Int
 pos:Int
deriving DecidableEq
def Tok.zero:Tok:=⟨0,[],0,0⟩
def dec(s:List UInt8):Nat:=s.foldl (λa c=>10 * a+(c.toNat - 48)) 0
def AN(k:Nat)(s:List UInt8):Int×Tok:=
 if k=7 then (0,⟨3,s,0,0⟩)
 else if k=6 then (if 42<s.length then (3,Tok.zero) else (0,⟨1,s,0,0⟩))
 else if s.all nI=false then (if 60<s.length then (3,Tok.zero) else (0,⟨1,s,0,0⟩))
 else if 1<s.length/\s.head?=some 48 then (10,Tok.zero)
 else if 1000000000<dec s then (3,Tok.zero) else (0,⟨2,[],dec s,0⟩)
def oE:List UInt8->Nat->Nat->List Tok×Int×Nat
 | [],_,_=>([],0,0)
 | c::r,p,k=>
  let n:=Po (c::r)
  if cls c=1\/cls c=2 then oE (r.drop (n - 1)) (p+n) k
  else if n=0 then ([],10,p)
  else if k=2000 then ([],2,p)
  else if (AN (cls c) ((c::r).take n)).1≠0 then ([],(AN (cls c) ((c::r).take n)).1,p)
  else
   let x:=oE (r.drop (n - 1)) (p+n) (k+1)
   ({ (AN (cls c) ((c::r).take n)).2 with pos:=p } :: x.1,x.2)
termination_by l=>l.length
decreasing_by all_goals (simp; omega)
def lex(s:List UInt8):List Tok×Int×Nat:=
 if 8000<s.length then ([],2,0) else if (oE s 0 0).2.1=0 then ((oE s 0 0).1,0,0) else ([],(oE s 0 0).2)

structure IsGap(g:List UInt8):Prop where
 skip:∀ x p k,oE (g++x) p k=oE x (p+g.length) k
 stop:∃ c r,g=c::r/\rM c=false
 rest:∀ p k,oE (g.drop (g.takeWhile Pi).length) p k=([],0,0)
def nB(n:Nat):List UInt8:=if n<10 then [UInt8.ofNat (48+n)] else nB (n / 10) ++ [UInt8.ofNat (48+n % 10)]
theorem Za(t:List UInt8)(c:UInt8):dec (t ++ [c])=10 * dec t+(c.toNat - 48):=by simp[dec]
theorem YX{t u:List UInt8}(h:t≠[]):(t++u).head?=t.head?:=by
 cases t with
 | nil=>exact absurd rfl h
 | cons a t=>rfl
def acY(y:List UInt8):Prop:=y = []\/y.head?=some 32
def Eg(t:Tok):Tok:={ t with pos:=0 }
def lE(x:List UInt8)(t:Tok):Prop:=∃ c r,x=c::r/\¬ (cls c=1\/cls c=2)/\(∀ y,acY y->Po (x++y)=x.length)/\(AN (cls c) x).1=0/\Eg (AN (cls c) x).2=Eg t
structure Zone where
 apex:List UInt8
 sets:List Signed
deriving DecidableEq
def nL:List (List UInt8)->List (List UInt8)->Int
 | [],_=>-1
 | _::_,[]=>1
 | x::xs,y::ys=>if cP x y≠0 then cP x y else nL xs ys
def aM(a b:List UInt8):Int:=if a=b then 0 else nL (bj a) (bj b)
def io(a b:DSet):Int:=if a.name≠b.name then aM a.name b.name else cX a.type b.type
def bG(s z:List UInt8):Bool:=s == z||z == [46]||(decide (z.length<s.length)&&(s.drop (s.length - z.length) == z)&&(s[s.length - z.length - 1]? == some 46))
def kc(apex:List UInt8):Option DSet->List Signed->Bool
 | _,[]=>true
 | p,x::r=>(aG x.set.name&&bG x.set.name apex)&&ee x.set&&(match p with | none=>true | some q=>decide (io q x.set<0))&&kc apex (some x.set) r
def fm(z:Zone):Bool:=aG z.apex&&!fp z.apex&&kc z.apex none z.sets
theorem MS:∀ (xs:List (List UInt8)) (n:Nat) (w:Bool),fO xs n w=true->∀ x∈xs,x = [42]\/cF x=true:=by
 intro xs
 induction xs with
 | nil=>intro _ _ _ x h; cases h
 | cons y xs ih=>
  intro n w h x hx;rw[fO] at h;split at h
  ·cases h
  ·split at h
   ·rename_i hy;rcases List.mem_cons.1 hx with rfl | hx
    ·exact .inl hy
    ·exact ih _ _ h x hx
   ·split at h
    ·rename_i hy;rcases List.mem_cons.1 hx with rfl | hx
     ·exact .inr hy
     ·exact ih _ _ h x hx
    ·cases h
theorem Gp{r:Rule} : ∀ {ds:List Datum} {p:Option Datum},jI r p ds=true->∀ d∈ds,jX r d=true
 | [],_,_,d,h=>by cases h
 | e::ds,p,h,d,hd=>by
   simp only[jI,Bool.and_eq_true] at h;rcases List.mem_cons.1 hd with rfl | hd
   ·exact h.1.1
   ·exact Gp h.2 d hd
theorem xY{s:DSet}(h:ee s=true):aG s.name=true/\1<=s.type/\s.type<=8/\0<=s.life/\s.life<=100000/\1<=s.data.length/\s.data.length<=8/\jI (cm s.type) none s.data=true:=by
 unfold ee at h;simp only[Bool.and_eq_true,Qa] at h;obtain⟨⟨⟨⟨⟨⟨h1,h2,h3⟩,h4,h5⟩,h6,h7⟩,_⟩,_⟩,h8⟩:=h;exact⟨h1,h2,h3,h4,h5,h6,h7,h8⟩
theorem C9{apex:List UInt8} : ∀ {l:List Signed} {p:Option DSet},kc apex p l=true->∀ x∈l,ee x.set=true
 | [],_,_,x,h=>by cases h
 | y::l,p,h,x,hx=>by
   simp only[kc,Bool.and_eq_true] at h;rcases List.mem_cons.1 hx with rfl | hx
   ·exact h.1.1.2
   ·exact C9 h.2 x hx
end Np
section
open Go.RowKit
def fT(_:World)(_:Nat)(e:List Value)(g:Np.Sig):Prop:=∃ s:ByteArray,s.data.toList=g.zone/\s.size<=140737488355328/\e = [.string s,.int .i64 g.key,.int .i64 g.alg,.int .i64 g.frm,.int .i64 g.til,.int .u64 g.sum]
theorem gg:dK fT:=λ_ _ _ _ _ h _=>h
theorem ij:dV fT:=λ_ _ _ _ _ h _=>h
def bK(W:World)(B:Nat)(e:List Value)(x:Np.Signed):Prop:=∃ (s:ByteArray) (v u:Value),s.data.toList=x.set.name/\s.size<=140737488355328/\SlR cG 3 W B v x.set.data/\SlR fT 6 W B u x.sigs/\e = [.string s,.int .i64 x.set.type,.int .i64 x.set.life,v,u]
theorem aV:dK bK:=λ_ _ _ _ _ ⟨s,v,u,h1,h2,h3,h4,h5⟩ hb=>⟨s,v,u,h1,h2,h3.keep cL hb,h4.keep gg hb,h5⟩
theorem bR:dV bK:=λ_ _ _ _ _ ⟨s,v,u,h1,h2,h3,h4,h5⟩ hb=>⟨s,v,u,h1,h2,h3.more dp hb,h4.more ij hb,h5⟩
def acX(W:World)(B:Nat)(e:List Value)(z:Np.Zone):Prop:=∃ (s:ByteArray) (v:Value),s.data.toList=z.apex/\s.size<=140737488355328/\SlR bK 5 W B v z.sets/\e = [.string s,v]
theorem SlR.later{α:Type}{R:World->Nat->List Value->α->Prop}{sz:Nat}{w w':World}{v:Value}{xs:List α}(hk:dK R)(hm:dV R)(h:SlR R sz w w.heap.size v xs)(hb:Below w.heap.size w w'):SlR R sz w' w'.heap.size v xs:=(h.keep hk hb).more hm hb.size
theorem Hs{w:World}{B:Nat}{v:Value}{xs:List Np.Datum}(h:SlR cG 3 w B v xs){k:Nat}{x:Np.Datum}(hx:xs[k]?=some x):∃ (b o c:Nat) (s:ByteArray),v = .slice (some ⟨b,o,none⟩) xs.length c/\b<B/\xs.length<=c/\s.data.toList=x.text/\s.size<=140737488355328/\
 w.cell? ⟨b,o+k * 3,none⟩=some (.string s)/\w.cell? ⟨b,o+k * 3+1,none⟩=some (.int .i64 x.n)/\w.cell? ⟨b,o+k * 3+2,none⟩=some (.int .i64 x.m):=by
 obtain⟨A,c,rfl,hc,_,he⟩:=h;obtain⟨b,o,e,rfl,hb,_,hce,s,h1,h2,rfl⟩:=he k x hx;exact⟨b,o,c,s,rfl,hb,hc,h1,h2,by have:=hce 0 _ rfl; simpa using this,hce 1 _ rfl,hce 2 _ rfl⟩
theorem eT{w:World}{B:Nat}{v:Value}{xs:List Np.Signed}(h:SlR bK 5 w B v xs){k:Nat}{x:Np.Signed}(hx:xs[k]?=some x):∃ (b o c:Nat) (s:ByteArray) (dv sv:Value),v = .slice (some ⟨b,o,none⟩) xs.length c/\b<B/\xs.length<=c/\s.data.toList=x.set.name/\s.size<=140737488355328/\SlR cG 3 w B dv x.set.data/\SlR fT 6 w B sv x.sigs/\
 w.cell? ⟨b,o+k * 5,none⟩=some (.string s)/\w.cell? ⟨b,o+k * 5+1,none⟩=some (.int .i64 x.set.type)/\w.cell? ⟨b,o+k * 5+2,none⟩=some (.int .i64 x.set.life)/\w.cell? ⟨b,o+k * 5+3,none⟩=some dv/\w.cell? ⟨b,o+k * 5+4,none⟩=some sv:=by
 obtain⟨A,c,rfl,hc,_,he⟩:=h;obtain⟨b,o,e,rfl,hb,_,hce,s,dv,sv,h1,h2,h3,h4,rfl⟩:=he k x hx;exact⟨b,o,c,s,dv,sv,rfl,hb,hc,h1,h2,h3,h4,by have:=hce 0 _ rfl; simpa using this,hce 1 _ rfl,hce 2 _ rfl,hce 3 _ rfl,hce 4 _ rfl⟩
theorem ag{α:Type}{R:World->Nat->List Value->α->Prop}{sz:Nat}{w:World}{B:Nat}{v:Value}{xs:List α}(h:SlR R sz w B v xs):∃ A c,v = .slice A xs.length c/\xs.length<=c/\xs.length<=140737488355328:=by
 obtain⟨A,c,h1,h2,h3,_⟩:=h;exact⟨A,c,h1,h2,h3⟩
open Classical in
noncomputable def bp(w:World)(M:Nat->Prop):World:={ w with heap:=w.heap.mapIdx λk o=>if M k then .cells #[] 0 else o }
theorem gH(w:World)(M:Nat->Prop):(bp w M).heap.size=w.heap.size:=by simp[bp]
theorem j9{w:World}{M:Nat->Prop}{k:Nat}(h:¬ M k):(bp w M).heap[k]?=w.heap[k]?:=by
 unfold bp;simp only[Array.getElem?_mapIdx,h,if_false]
 cases w.heap[k]? <;> rfl
theorem vr{w:World}{M:Nat->Prop}{k:Nat}(h:M k):(bp w M).heap[k]?=(w.heap[k]?).map λ_=>Obj.cells #[] 0:=by
 unfold bp;simp only[Array.getElem?_mapIdx,h,if_true]
theorem Wd{w:World}{M:Nat->Prop}{p:Addr}{v:Value}(h:(bp w M).cell? p=some v):¬ M p.block/\w.cell? p=some v:=by
 by_cases hm:M p.block
 ·exfalso;unfold World.cell? at h;rw[vr hm] at h
  cases hh:w.heap[p.block]? with
  | none=>simp[hh] at h
  | some o=>simp[hh] at h
 ·refine⟨hm,?_⟩;rw[<-h];exact (iQ (w:=w) (j9 hm)).symm
theorem T3{w:World}{M:Nat->Prop}{p:Addr}(h:¬ M p.block):(bp w M).cell? p=w.cell? p:=iQ (w:=w) (j9 h)
def fu{α:Type}(R:World->Nat->List Value->α->Prop):Prop:=∀ w (M M':Nat->Prop) B e x,(∀ k,M' k->M k)->R (bp w M) B e x->R (bp w M') B e x
theorem cN.sans{w:World}{M M':Nat->Prop}{b o:Nat}{e:List Value}(hM:∀ k,M' k->M k)(h:cN (bp w M) b o e):cN (bp w M') b o e:=λj v hj=>by
 obtain⟨h1,h2⟩:=Wd (h j v hj);rw[T3 (λe=>h1 (hM _ e))];exact h2
theorem SlR.sans{α:Type}{R:World->Nat->List Value->α->Prop}{sz:Nat}{w:World}{M M':Nat->Prop}{B:Nat}{v:Value}{xs:List α}(hR:fu R)(hM:∀ k,M' k->M k)(h:SlR R sz (bp w M) B v xs):SlR R sz (bp w M') B v xs:=by
 obtain⟨A,c,hv,hc,hl,he⟩:=h;refine⟨A,c,hv,hc,hl,λi x hx=>?_⟩;obtain⟨b,o,e,hA,hB,bU,hce,hr⟩:=he i x hx;exact⟨b,o,e,hA,hB,bU,hce.sans hM,hR _ _ _ _ _ _ hM hr⟩
theorem Nk(w:World):bp w (λ_=>False)=w:=by
 unfold bp
 cases w
 simp only[World.mk.injEq,and_true];apply Array.ext_getElem?;intro i;simp only[Array.getElem?_mapIdx,if_false];rename_i heap _ _ _ _
 cases heap[i]? <;> rfl
theorem SlR.all{α:Type}{R:World->Nat->List Value->α->Prop}{sz:Nat}{w:World}{M:Nat->Prop}{B:Nat}{v:Value}{xs:List α}(hR:fu R)(h:SlR R sz (bp w M) B v xs):SlR R sz w B v xs:=by
 have:=h.sans (M':=λ_=>False) hR (λ_ e=>e.elim)
 rw[Nk] at this;exact this
theorem vd:fu cG:=λ_ _ _ _ _ _ _ h=>h
theorem yc:fu fT:=λ_ _ _ _ _ _ _ h=>h
theorem ji:fu bK:=λ_ _ _ _ _ _ hM ⟨s,v,u,h1,h2,h3,h4,h5⟩=>⟨s,v,u,h1,h2,h3.sans vd hM,h4.sans yc hM,h5⟩
theorem fu.all{α:Type}{R:World->Nat->List Value->α->Prop}(hR:fu R){w:World}{M:Nat->Prop}{B:Nat}{e:List Value}{x:α}(h:R (bp w M) B e x):R w B e x:=by
 have:=hR w M (λ_=>False) B e x (λ_ e=>e.elim) h
 rw[Nk] at this;exact this
structure Leaves'(M:Nat->Prop)(w w':World)(M':Nat->Prop):Prop where
 os:w'.os=w.os
 tape:w'.tape=w.tape
 output:w'.output=w.output
 size:w.heap.size<=w'.heap.size
 keep:∀ k,k<w.heap.size->¬ M k->¬ M' k/\w'.heap[k]?=w.heap[k]?
theorem Leaves'.refl(M:Nat->Prop)(w:World):Leaves' M w w M:=⟨rfl,rfl,rfl,bQ _,λ_ _ h=>⟨h,rfl⟩⟩
theorem Leaves'.trans{M M' M'':Nat->Prop}{a b c:World}(h:Leaves' M a b M')(k:Leaves' M' b c M''):Leaves' M a c M'':=
 ⟨k.os.trans h.os,k.tape.trans h.tape,k.output.trans h.output,yQ h.size k.size,λi hi hm=>by
  obtain⟨h1,h2⟩:=h.keep i hi hm;obtain⟨h3,h4⟩:=k.keep i (lQ hi h.size) h1;exact⟨h3,h4.trans h2⟩⟩
theorem Leaves'.of_below{M:Nat->Prop}{w w':World}(h:Below w.heap.size w w'):Leaves' M w w' M:=⟨h.os,h.tape,h.output,h.size,λk hk hm=>⟨hm,h.block k hk⟩⟩
theorem Leaves'.setCell(M:Nat->Prop)(w:World){p:Addr}(hp:M p.block)(v:Value):Leaves' M w (w.setCell p v) M:=
 ⟨rfl,rfl,rfl,by simp[World.setCell],λk _ hm=>⟨hm,wQ _ _ _ _ (λe=>hm (e ▸ hp))⟩⟩
theorem Leaves'.grown{M:Nat->Prop}{w w':World}{row:Option Nat}(hg:w.grownBy w' row)(hr:∀ k,row=some k->M k):Leaves' M w w' M:=
 ⟨hg.os,hg.tape,hg.output,hg.size,λk hk hm=>⟨hm,hg.block k hk (λe=>hm (hr k e.symm))⟩⟩
theorem Leaves'.more{M M' N:Nat->Prop}{w w':World}(h:Leaves' M w w' M')(hN:∀ k,N k->M' k\/w.heap.size<=k):Leaves' M w w' N:=
 ⟨h.os,h.tape,h.output,h.size,λk hk hm=>⟨λe=>(hN k e).elim (h.keep k hk hm).1 (by omega),(h.keep k hk hm).2⟩⟩
theorem Leaves'.read{α:Type}{R:World->Nat->List Value->α->Prop}(hk:dK R)(hs:fu R)(hm:dV R){M M':Nat->Prop}{w w':World}(h:Leaves' M w w' M'){e:List Value}{x:α}(hr:R (bp w M) w.heap.size e x):R (bp w' M') w'.heap.size e x:=by
 have hb:Below w.heap.size (bp w M) (bp w' λk=>M k\/M' k):=by
  refine⟨h.os,h.tape,h.output,by rw[gH,gH]; exact h.size,λk hk=>?_⟩;by_cases hM:M k
  ·rw[vr hM,vr (M:=λk=>M k\/M' k) (Or.inl hM)];have h1:k<w'.heap.size:=lQ hk h.size;rw[pQ hk,pQ h1];rfl
  ·obtain⟨h1,h2⟩:=h.keep k hk hM;rw[j9 hM,j9 (M:=λk=>M k\/M' k) (λe=>e.elim hM h1),h2]
 exact hm _ _ _ _ _ (hs _ _ _ _ _ _ (λk e=>Or.inr e) (hk _ _ _ _ _ hr hb)) h.size
def bJ{α:Type}(R:World->Nat->List Value->α->Prop)(sz:Nat)(e:TypeId)(base:Nat)(M:Nat->Prop)(w:World)(v:Value)(xs:List α):Prop:=
 ∃ rows:List (List Value),rows.length=xs.length/\w.ownsRow base e sz v xs.length rows.flatten/\(∀ g,v.ownBlock=some g->M g)/\
   ∀ (i:Nat) (r:List Value) (x:α),rows[i]?=some r->xs[i]?=some x->r.length=sz/\R (bp w M) w.heap.size r x
theorem bJ.nil{α:Type}{R:World->Nat->List Value->α->Prop}{sz:Nat}{e:TypeId}{base:Nat}{M:Nat->Prop}(w:World):bJ (α:=α) R sz e base M w (.slice none 0 0) []:=
 ⟨[],rfl,⟨by simp,.inl ⟨rfl,rfl⟩⟩,(λg h=>by cases h),λi r x h=>by simp at h⟩
theorem bJ.form{α:Type}{R:World->Nat->List Value->α->Prop}{sz:Nat}{e:TypeId}{base:Nat}{M:Nat->Prop}{w:World}{v:Value}{xs:List α}(h:bJ R sz e base M w v xs):∃ A c,v = .slice A xs.length c:=by
 obtain⟨rows,h1,h2,h3⟩:=h;rcases h2.2 with ⟨rfl,h0⟩ | ⟨g,cap,cur,rfl,_⟩
 ·exact⟨none,0,by rw[h0]⟩
 ·exact⟨_,cap,rfl⟩
theorem bJ.leaves{α:Type}{R:World->Nat->List Value->α->Prop}(hk:dK R)(hs:fu R)(hm:dV R){sz:Nat}{e:TypeId}{base:Nat}{M M':Nat->Prop}{w w':World}{v:Value}{xs:List α}(h:bJ R sz e base M w v xs)(hl:Leaves' M w w' M')
 (ho:∀ g,v.ownBlock=some g->w'.heap[g]?=w.heap[g]?/\M' g):bJ R sz e base M' w' v xs:=by
 obtain⟨rows,h1,h2,h3,h4⟩:=h;exact⟨rows,h1,fL h2 (λg hg=>(ho g hg).1),λg hg=>(ho g hg).2,λi r x hr hx=>⟨(h4 i r x hr hx).1,hl.read hk hs hm (h4 i r x hr hx).2⟩⟩
theorem bJ.slr{α:Type}{R:World->Nat->List Value->α->Prop}(hs:fu R){sz:Nat}{e:TypeId}{base:Nat}{M:Nat->Prop}{w:World}{v:Value}{xs:List α}(h:bJ R sz e base M w v xs)(hl:xs.length<=140737488355328):SlR R sz w w.heap.size v xs:=by
 obtain⟨rows,h1,h2,h3,h4⟩:=h;have hl':=bF.rows_len (w:=bp w M) (B:=w.heap.size) h1 h4;rcases h2.2 with ⟨rfl,h0⟩ | ⟨g,cap,cur,rfl,hb,hg,pr,_⟩
 ·have:xs = []:=rQ h0
  subst this;exact⟨none,0,rfl,by simp,by simp,λi x hx=>by simp at hx⟩
 ·refine⟨_,cap,rfl,pr,hl,λi x hx=>?_⟩;have hi:=(cQ.1 hx).1;have hr:=aQ (l:=rows) (i:=i) (by omega);obtain⟨h5,h6⟩:=h4 i _ x hr hx;refine⟨g,0,rows[i],rfl,(eQ.1 hg).1,h5,λj u hj=>?_,hs.all h6⟩;have h7:=h2.cells (g:=g) rfl _ _ (Dy rows i j _ u hl' hr hj);have pu:(⟨g,0,none⟩:Addr).add (i * sz+j)=⟨g,0+i * sz+j,none⟩:=by unfold Addr.add; split <;> simp_all
  rw[pu] at h7;exact h7
def yD{α:Type}(R:World->Nat->List Value->α->Prop)(sz:Nat)(M:Nat->Prop)(w:World)(A:Option Addr)(ys:List α):Prop:=
 ∃ rows:List (List Value),rows.length=ys.length/\(∀ (i:Nat) (r:List Value) (x:α),rows[i]?=some r->ys[i]?=some x->r.length=sz/\R (bp w M) w.heap.size r x)/\(ys≠[]->∃ b o,A=some ⟨b,o,none⟩/\∀ j u,rows.flatten[j]?=some u->w.cell? ((⟨b,o,none⟩:Addr).add j)=some u)
theorem yd{α:Type}{R:World->Nat->List Value->α->Prop}{sz:Nat}{M:Nat->Prop}{w:World}{b o:Nat}{r:List Value}{x:α}(hl:r.length=sz)(hr:R (bp w M) w.heap.size r x)(hc:cN w b o r):yD R sz M w (some ⟨b,o,none⟩) [x]:=by
 refine⟨[r],rfl,λi r' x' h1 h2=>?_,λ_=>⟨b,o,rfl,λj u hj=>?_⟩⟩
 ·cases i with
  | zero=>simp at h1 h2; subst h1; subst h2; exact⟨hl,hr⟩
  | succ i=>simp at h1
 ·have pu:(⟨b,o,none⟩:Addr).add j=⟨b,o+j,none⟩:=by unfold Addr.add; split <;> simp_all
  rw[pu];exact hc j u (by simpa using hj)
section
variable {P:Program}
theorem Uz{α:Type}{R:World->Nat->List Value->α->Prop}{sz:Nat}{M:Nat->Prop}(w:World)(t ty:TypeId)
 (base:Nat) (e:TypeId) (i:TypeInfo) (z:Value) (bytes:Nat) (ht:P.underlying t=some (.slice e)) (hi:P.info? e=some i) (hz:i.zero=some z) (mx:i.size=sz) (jh:i.bytes=bytes) (tj:z.cells.size=sz) (an:0<sz)
 (v:Value) (xs:List α) (hown:bJ R sz e base M w v xs) (A:Option Addr) (c:Nat) (ys:List α) (eM:yD R sz M w A ys)
 (wW:∀ w B r y,R w B r y->∀ u∈r,u.oneCell'=true) (li:xs.length+ys.length<=maxLen) (nU:(xs.length+ys.length) * bytes<=140737488355328) (eS:base<=w.heap.size) (hk:dK R) (hs:fu R) (hm:dV R) :
 ∃ v' w',(Builtin.append_ #[t,t] ty #[v,.slice A ys.length c]).run P w = .ok v' w'/\bJ R sz e base (λk=>M k\/v'.ownBlock=some k) w' v' (xs++ys)/\w.grownBy w' v.ownBlock/\(v'.ownBlock=v.ownBlock\/v'.ownBlock=some w.heap.size):=by
 have sV:∀ (w':World) (v':Value) (rows rows':List (List Value)),w.grownBy w' v.ownBlock->(v'.ownBlock=v.ownBlock\/v'.ownBlock=some w.heap.size)->(∀ g,v.ownBlock=some g->M g)->rows.length=xs.length->(∀ (i:Nat) (r:List Value) (x:α),rows[i]?=some r->xs[i]?=some x->r.length=sz/\R (bp w M) w.heap.size r x)->rows'.length=ys.length->
  (∀ (i:Nat) (r:List Value) (x:α),rows'[i]?=some r->ys[i]?=some x->r.length=sz/\R (bp w M) w.heap.size r x)->w'.ownsRow base e sz v' (xs.length+ys.length) (rows.flatten++rows'.flatten)->bJ R sz e base (λk=>M k\/v'.ownBlock=some k) w' v' (xs++ys):=by
  intro w' v' rows rows' hg hat yW h1 h2 h3 h4 h5;have xm:Leaves' M w w' (λk=>M k\/v'.ownBlock=some k):=(Leaves'.grown hg yW).more (λk e=>by
   rcases e with e | e
   ·exact .inl e
   ·rcases hat with h | h
    ·exact .inl (yW k (h ▸ e))
    ·rw[h] at e; cases e; exact .inr (bQ _))
  refine⟨rows++rows',by simp[h1,h3],?_,λg hg'=>.inr hg',λj r y hr hy=>?_⟩
  ·rw[List.length_append,List.flatten_append]; exact h5
  ·rcases Nat.lt_or_ge j rows.length with ab | oW
   ·rw[List.getElem?_append_left ab] at hr;rw[List.getElem?_append_left (by omega)] at hy;obtain⟨h6,h7⟩:=h2 j r y hr hy;exact⟨h6,xm.read hk hs hm h7⟩
   ·rw[oQ oW] at hr;rw[oQ (by omega),<-h1] at hy;obtain⟨h6,h7⟩:=h4 _ r y hr hy;exact⟨h6,xm.read hk hs hm h7⟩
 obtain⟨rows,h1,h2,yW,h3⟩:=hown;obtain⟨rows',h4,h5,h6⟩:=eM;by_cases hy:ys = []
 ·subst hy;have mC:rows' = []:=rQ (by simpa using h4);subst mC
  cases A with
  | none=>
   have dH:=LJ (P:=P) base t ty e i sz ht hi v xs.length c rows.flatten h2;have hg:w.grownBy w v.ownBlock:=⟨rfl,rfl,rfl,bQ _,λ_ _ _=>rfl⟩;exact⟨v,w,dH,sV w v rows [] hg (.inl rfl) yW h1 h3 rfl (λj r y hr=>by simp at hr) (by simpa using h2),hg,.inl rfl⟩
  | some ad=>
   obtain⟨v',w',hr,ho',hg,_,hat⟩:=run_append_own_at (P:=P) w base t ty e i z sz bytes ht hi hz mx jh tj an v xs.length rows.flatten h2 ad 0 c [] (by simp) (λj u hj=>by simp at hj) (λu hu=>by cases hu) (by simpa using li) (by simpa using nU) eS;exact⟨v',w',hr,sV w' v' rows [] hg hat yW h1 h3 rfl (λj r y hr=>by simp at hr) (by simpa using ho'),hg,hat⟩
 ·obtain⟨b,o',rfl,hcell⟩:=h6 hy;have hl:=bF.rows_len (w:=bp w M) (B:=w.heap.size) h4 h5;obtain⟨v',w',hr,ho',hg,_,hat⟩:=run_append_own_at (P:=P) w base t ty e i z sz bytes ht hi hz mx jh tj an v xs.length rows.flatten h2 ⟨b,o',none⟩ ys.length c rows'.flatten (by rw[Gw rows' hl,h4]) hcell (λu hu=>by
   obtain⟨r,hr,Kt⟩:=List.mem_flatten.1 hu;obtain⟨j,hj,rfl⟩:=nQ.1 hr;exact wW _ _ _ _ (h5 j _ _ (aQ hj) (aQ (by omega))).2 u Kt) li nU eS
  exact⟨v',w',hr,sV w' v' rows rows' hg hat yW h1 h3 h4 h5 ho',hg,hat⟩
theorem Dg{α:Type}{R:World->Nat->List Value->α->Prop}{sz:Nat}{M:Nat->Prop}(w:World){o:Oper}{a:Act}{K:Act->World->Prop}{Q:Exit->Act->World->Prop}(s x:Operand)(t:TypeId)
 (ho:o.op = .call { callee:=.builtin .append,args:=#[s,x],argTypes:=#[t,t] })
 (base:Nat) (e:TypeId) (i:TypeInfo) (z:Value) (bytes:Nat) (ht:P.underlying t=some (.slice e)) (hi:P.info? e=some i) (hz:i.zero=some z) (mx:i.size=sz) (jh:i.bytes=bytes) (tj:z.cells.size=sz) (an:0<sz)
 (v:Value) (xs:List α) (hv:a.eval s=v) (hown:bJ R sz e base M w v xs) (A:Option Addr) (c:Nat) (ys:List α) (hx:a.eval x = .slice A ys.length c) (eM:yD R sz M w A ys)
 (wW:∀ w B r y,R w B r y->∀ u∈r,u.oneCell'=true) (li:xs.length+ys.length<=maxLen) (nU:(xs.length+ys.length) * bytes<=140737488355328) (eS:base<=w.heap.size) (hk:dK R) (hs:fu R) (hm:dV R)
 (h:∀ v' w',bJ R sz e base (λk=>M k\/v'.ownBlock=some k) w' v' (xs++ys)->w.grownBy w' v.ownBlock->(v'.ownBlock=v.ownBlock\/v'.ownBlock=some w.heap.size)->K (a.put o.dst v') w'):o.wp P a w K Q:=by
 obtain⟨v',w',hr,h2,h4,h5⟩:=Uz (P:=P) w t o.type base e i z bytes ht hi hz mx jh tj an v xs hown A c ys eM wW li nU eS hk hs hm;unfold Oper.wp execOp;simp only[ho,resolve,invoke,builtin,Sem.run_bind,Sem.run_pure,Result.andThen_ok,List.map_toArray,List.map_cons,List.map_nil,hv,hx,hr];exact h v' w' h2 h4 h5
theorem Gc{α:Type}{R:World->Nat->List Value->α->Prop}{sz:Nat}{M:Nat->Prop}(w:World){ops:Array Oper}{rest:List Oper}{o:Oper}{a:Act}{Q:Exit->Act->World->Prop}(jA:o.guard=none)(s x:Operand)(t:TypeId)
 (ho:o.op = .call { callee:=.builtin .append,args:=#[s,x],argTypes:=#[t,t] })
 (base:Nat) (e:TypeId) (i:TypeInfo) (z:Value) (bytes:Nat) (ht:P.underlying t=some (.slice e)) (hi:P.info? e=some i) (hz:i.zero=some z) (mx:i.size=sz) (jh:i.bytes=bytes) (tj:z.cells.size=sz) (an:0<sz)
 (v:Value) (xs:List α) (hv:a.eval s=v) (hown:bJ R sz e base M w v xs) (A:Option Addr) (c:Nat) (ys:List α) (hx:a.eval x = .slice A ys.length c) (eM:yD R sz M w A ys)
 (wW:∀ w B r y,R w B r y->∀ u∈r,u.oneCell'=true) (li:xs.length+ys.length<=maxLen) (nU:(xs.length+ys.length) * bytes<=140737488355328) (eS:base<=w.heap.size) (hk:dK R) (hs:fu R) (hm:dV R)
 (h:∀ v' w',bJ R sz e base (λk=>M k\/v'.ownBlock=some k) w' v' (xs++ys)->w.grownBy w' v.ownBlock->(v'.ownBlock=v.ownBlock\/v'.ownBlock=some w.heap.size)->wpList P ops Q rest (a.put o.dst v') w'):wpList P ops Q (o::rest) a w:=by
 refine wpList_plain jA λK hK=>?_;exact Dg w s x t ho base e i z bytes ht hi hz mx jh tj an v xs hv hown A c ys hx eM wW li nU eS hk hs hm (λv' w' h1 h2 h3=>hK _ _ (h v' w' h1 h2 h3))
end
end
end Go.Proofs.YtbfbobfbgabjiaaGreatDoor
namespace Go.Proofs
open YtbfbobfbgabjiaaGreatDoor
open Go.Shelf
def Tryz.lays106_ren:Go.Shelf.Ren:=⟨fun | 106=>99 | 213=>161 | 265=>221 | n=>n,fun | 9=>9 | 3=>3 | n=>n,fun | n=>n⟩
theorem Tryz.lays106:Go.Proofs.Lays.n106 Tryz.prog Tryz.lays106_ren:={
 mixed:=by kernel_rfl
 f106:=Tryz.func99.trans (Qd some (by kernel_rfl))
 f213:=Tryz.func161.trans (Qd some (by kernel_rfl))
 f265:=Tryz.func221.trans (Qd some (by kernel_rfl))
 t3:=Tryz.underlying3
 a3:=Tryz.isAgg3
 z3:=Tryz.sizeOf3
 v3:=Tryz.zeroValue3
 t9:=Tryz.underlying9
 a9:=Tryz.isAgg9
 z9:=Tryz.sizeOf9
 v9:=Tryz.zeroValue9 }
open Go.RowKit in
theorem Tryz.strings_Compare(a b:ByteArray)(w:World) :
 Calls Tryz.prog 99 #[.string a,.string b] w λe w'=>e = .returned (.int .i64 (Lib.compareBytes a.data.toList b.data.toList))/\w'=w:=Any.strings_Compare Tryz.lays106 a b w
end Go.Proofs
namespace Go.Proofs.YtbfbobfbgabjiaaGreatDoor
open Go.Proofs.Tryz
namespace D
open Go.RowKit Go.Shelf
attribute [local go_sem] Oper.semAt_some
def rR(W:World)(lm lr:Nat)(rem:List (List UInt8)):Prop:=
 ∃ (more:Bool) (r:ByteArray),Boxed W lm 4 (.bool more)/\Boxed W lr 9 (.string r)/\r.size<=140737488355328/\rem=if more then (Np.be r.data.toList).reverse else []
theorem rR.it{B:Nat}{S:Nat->Prop}{W W':World}{lm lr:Nat}{rem:List (List UInt8)}(h:rR W lm lr rem)(hs:ItStep B S W W')(h1:S lm)(h2:S lr):rR W' lm lr rem:=by
 obtain⟨more,r,b1,b2,h3,h4⟩:=h;exact⟨more,r,kN b1 hs h1,kN b2 hs h2,h3,h4⟩
def Ii(W:World)(lm lr:Nat)(rem:List (List UInt8))(e:Ending)(W':World):Prop:=
 (rem = []/\e = .returned (.tuple #[.string ⟨#[]⟩,.bool false])/\W'=W)\/
 ∃ x rest,rem=x::rest/\e = .returned (.tuple #[aH x,.bool true])/\rR W' lm lr rest/\∃ b u,(b=lm\/b=lr)/\W'=W.setCell ⟨b,0,none⟩ u
theorem YQ(lm lr:Nat)(hne:lm≠lr)(rem:List (List UInt8))(w:World)(h:rR w lm lr rem) :
 Calls prog 159 #[.pointer (some ⟨lm,0,none⟩),.pointer (some ⟨lr,0,none⟩)] w (Ii w lm lr rem):=by
 obtain⟨more,r,b1,b2,h3,h4⟩:=h;have HR:=jq h4;clear h4;have c1:=b1.cell;have c2:=b2.cell;have f1:=b1.frozen;have f2:=b2.frozen
 cases more with
 | false=>
  go_enter func159,ntmps159;go_wp2_with fail;refine bodyPost_ret (v:=.tuple #[.string ⟨#[]⟩,.bool false]) (by simp[results,results159,go_sem]) rfl ?_;exact .inl ⟨HR.out,rfl,rfl⟩
 | true=>
  go_enter func159,ntmps159;go_wp2_with fail;refine (Gb _ h3 _ (by decide) (by decide) _).mono ?_;rintro e w' ⟨q,hq,rfl,rfl⟩;rcases hq with ⟨rfl,iG⟩ | ⟨a,b,iw,uP,rfl⟩
  ·have aZ:Np.be r.data.toList = [r.data.toList]:=Np.xV iG;have HS:=jq aZ;clear aZ iG;go_wp2_with fail;refine bodyPost_ret (v:=.tuple #[.string r,.bool true]) (by simp[results,results159,go_sem]) rfl ?_;refine .inr ⟨r.data.toList,[],by rw[HR.out,Qb trivial,HS.out]; rfl,rfl,⟨false,r,b1.set _,fG b2 (by simpa using hne.symm) _,h3,rfl⟩,lm,_,.inl rfl,rfl⟩
  ·have lk:a.length+1+b.length=r.size:=by rw[<-bn,iw]; simp; omega
   have aZ:Np.be r.data.toList=Np.be a ++ [b]:=by rw[iw]; exact (Np.zR a b).trans (by rw[Np.xV uP])
   have mD:(r.extract (a.length+1) r.size).data.toList=b:=by rw[DR,iw]; simp
   have rF:(r.extract 0 a.length).data.toList=a:=by rw[D9,iw]; simp
   have HXB:Hid (r.extract (a.length+1) r.size=⟨b.toArray⟩):=jq (iV (by rw[mD]));have Ro:=jq rF;have HS:=jq aZ;clear aZ mD rF iw uP;have iK:a.length<=140737488355328:=by omega
   have Qk:a.length+1<=r.size:=by omega
   have blY:(a.length:Int)+1<=(r.size:Int):=by omega
   clear lk;go_wp2_with fail;refine bodyPost_ret (v:=.tuple #[.string (r.extract (a.length+1) r.size),.bool true]) (by simp[results,results159,go_sem]) rfl ?_;refine .inr ⟨b,(Np.be a).reverse,by rw[HR.out,Qb trivial,HS.out]; simp,by rw[HXB.out],⟨true,r.extract 0 a.length,fG b1 (by simpa using hne) _,b2.set _,by rw[<-bn,Ro.out]; omega,by rw[Ro.out]; rfl⟩,lr,_,.inr rfl,rfl⟩
theorem Wt(t:ByteArray)(ht:t.size<=140737488355328)(w:World) :
 Calls prog 97 #[.string t] w λe w'=>e = .returned (.func (.func 159) #[] #[.pointer (some ⟨w.heap.size+1,0,none⟩),.pointer (some ⟨w.heap.size,0,none⟩)])/\
  rR w' (w.heap.size+1) w.heap.size (Np.bj t.data.toList)/\Below w.heap.size w w'/\w'.heap.size=w.heap.size+2:=by
 have b0:=Boxed.new w 9 (.string t);have hb:∀ o o',Below w.heap.size w ((w.alloc o).alloc o'):=λo o'=>((vQ _ w).alloc (bQ _) _).alloc (by simp) _;by_cases he:t.data.toList = [46]
 ·have lX:(t.toList == [46])=true:=by rw[dQ,he]; rfl
  have b1:=Boxed.new (w.alloc (.cells #[.string t] 9)) 4 (.bool false);rw[World.size_alloc] at b1;have HB:Hid (Np.bj t.data.toList = []):=jq (by simp[Np.bj,he]);clear he;go_enter func97,ntmps97;go_wp2_with fail;go_ret;exact⟨rfl,⟨false,t,b1,b0.alloc _,ht,by rw[HB.out]; rfl⟩,hb _ _,by simp⟩
 ·have lX:(t.toList == [46])=false:=by rw[dQ]; simpa using he
  have b1:=Boxed.new (w.alloc (.cells #[.string t] 9)) 4 (.bool true);rw[World.size_alloc] at b1;have HB:Hid (Np.bj t.data.toList=(Np.be t.data.toList).reverse):=jq (by simp[Np.bj,he]);clear he;go_enter func97,ntmps97;go_wp2_with fail;go_ret;exact⟨rfl,⟨true,t,b1,b0.alloc _,ht,by rw[HB.out]; rfl⟩,hb _ _,by simp⟩
theorem ZP:∀ a b:List UInt8,Lib.compareBytes a b=Np.cP a b:=by
 intro a
 induction a with
 | nil=>
  intro b
  cases b with
  | nil=>rfl
  | cons y b=>simp[Lib.compareBytes,Np.cP,Op.bytesLess]
 | cons x a ih=>
  intro b
  cases b with
  | nil=>simp[Lib.compareBytes,Np.cP,Op.bytesLess]
  | cons y b=>
   rw[Lib.compareBytes,ih b];by_cases h1:x<y
   ·simp[Np.cP,Op.bytesLess,h1]
   ·by_cases h2:y<x
    ·have h3:¬ x=y:=λe=>by subst e; exact h1 h2
     simp[Np.cP,Op.bytesLess,h1,h2,h3]
    ·have h3:x=y:=by
      apply UInt8.toNat_inj.1;simp only[UInt8.lt_iff_toNat_lt] at h1 h2;omega
     subst h3;simp[Np.cP,Op.bytesLess,h1]
theorem TL(s t:ByteArray)(w:World) :
 Calls prog 99 #[.string s,.string t] w λe w'=>e = .returned (.int .i64 (Np.cP s.data.toList t.data.toList))/\w=w':=
 (Tryz.strings_Compare s t w).mono λe w' ⟨he,hw⟩=>⟨by rw[he,ZP],hw.symm⟩
def Iy(g lm lr l8:Nat)(S:Nat->Prop):Prop:=∀ k,S k↔k=g\/k=g+1\/k=lm\/k=lr\/k=l8
def Iz(w:World)(g lm lr l8:Nat)(fv:Value)(m n:List UInt8)(pre:List (List UInt8))(S:Nat->Prop)(W:World):Prop:=
 Iy g lm lr l8 S/\Boxed W g 3 (.int .i64 0)/\Boxed W (g+1) 35 (.int .i64 0)/\Boxed W l8 156 fv/\
 (∃ rem,rR W lm lr rem/\∀ rest,Np.bj m=pre++rest->Np.nL (Np.bj m) (Np.bj n)=Np.nL rest rem)/\Below w.heap.size w W
def Iw(w:World)(g lm lr l8:Nat)(m n:List UInt8)(c:Code)(_:List (List UInt8))(S:Nat->Prop)(W:World):Prop:=
 c = .ret/\Iy g lm lr l8 S/\Boxed W g 3 (.int .i64 (Np.nL (Np.bj m) (Np.bj n)))/\Boxed W (g+1) 35 (.int .i64 0)/\Below w.heap.size w W
theorem MZ(w:World)(g lm lr l8:Nat)(fv:Value)(m n:List UInt8)(B:Nat)(hB:w.heap.size<=B):gh B (Iz w g lm lr l8 fv m n):=by
 rintro s S W W' ⟨hS,h1,h2,h3,⟨rem,h4,h5⟩,h6⟩ aB;exact⟨hS,kN h1 aB ((hS _).2 (.inl rfl)),kN h2 aB ((hS _).2 (.inr (.inl rfl))),kN h3 aB ((hS _).2 (.inr (.inr (.inr (.inr rfl))))),
  ⟨rem,h4.it aB ((hS _).2 (.inr (.inr (.inl rfl)))) ((hS _).2 (.inr (.inr (.inr (.inl rfl))))),h5⟩,vw h6 aB hB (bQ _)⟩
theorem VJ(w:World)(g lm lr l8:Nat)(m n:List UInt8)(B:Nat)(hB:w.heap.size<=B)(c:Code):gh B (Iw w g lm lr l8 m n c):=by
 rintro s S W W' ⟨hc,hS,h1,h2,h6⟩ aB;exact⟨hc,hS,kN h1 aB ((hS _).2 (.inl rfl)),kN h2 aB ((hS _).2 (.inr (.inl rfl))),vw h6 aB hB (bQ _)⟩
theorem Ii.rd{W W':World}{lm lr:Nat}{rem:List (List UInt8)}{e:Ending}(h:Ii W lm lr rem e W'):(rem = []/\e = .returned (.tuple #[.string ⟨#[]⟩,.bool false])/\W'=W)\/
 ∃ x rest,rem=x::rest/\e = .returned (.tuple #[aH x,.bool true])/\rR W' lm lr rest/\(∀ S:Nat->Prop,S lm->S lr->RdStep S W W')/\(∀ b t v,b≠lm->b≠lr->Boxed W b t v->Boxed W' b t v)/\(∀ (n:Nat) (w:World),n<=lm->n<=lr->Below n w W->Below n w W'):=by
 rcases h with h | ⟨x,rest,h1,h2,h3,b,u,hb,rfl⟩
 ·exact .inl h
 ·refine .inr ⟨x,rest,h1,h2,h3,λS s1 s2=>?_,λb' t v n1 n2 hv=>fG hv (by rcases hb with rfl | rfl <;> assumption) _,λn w n1 n2 hB=>hB.setCell (p:=⟨b,0,none⟩) (by rcases hb with rfl | rfl <;> assumption) _⟩;exact RdStep.setCell (RdStep.refl S W) (.inl (by rcases hb with rfl | rfl <;> assumption)) _
theorem Pb{w:World}{lm lr l8:Nat}{fv:Value}{m n:List UInt8}{pre:List (List UInt8)}{S:Nat->Prop}{W W3:World}{a:Act}{v0 v1:Value}{q:Int}(hS:Iy w.heap.size lm lr l8 S)
 (hr:RdStep S W W3) (ab:∀ k,S k->k<W.heap.size) (c0:Boxed W3 w.heap.size 3 v0) (c1:Boxed W3 (w.heap.size+1) 35 v1) (hB:Below w.heap.size w W3) (hv:Np.nL (Np.bj m) (Np.bj n)=q) :
 nF (Iz w w.heap.size lm lr l8 fv m n) (Iw w w.heap.size lm lr l8 m n) pre S W .ret a ((W3.setCell ⟨w.heap.size,0,none⟩ (.int .i64 q)).setCell ⟨w.heap.size+1,0,none⟩ (.int .i64 0)):=
 ⟨S,(hr.setCell (.inl ((hS _).2 (.inl rfl))) _).setCell (.inl ((hS _).2 (.inr (.inl rfl)))) _,λ_ e=>.inl e,λk e=>by have:=ab k e; have:=hr.size; simp[World.setCell]; omega,rfl,hS,
  by rw[hv]; exact fG (c0.set _) (by simp) _,(fG c1 (by simp) _).set _,(hB.setCell (bQ _) _).setCell (by simp) _⟩
def cmpVal(a b:List UInt8):Value:=if Np.aG a&&Np.aG b then .tuple #[.int .i64 (Np.aM a b),.int .i64 0] else .tuple #[.int .i64 0,.int .i64 11]
theorem compare_any(a b:ByteArray)(ha:a.size<=140737488355328)(hb:b.size<=140737488355328)(w:World) :
 Calls prog 53 #[.string a,.string b] w λe w'=>e = .returned (cmpVal a.data.toList b.data.toList)/\Below w.heap.size w w':=by
 refine (callsIn_wide (n:=0)).1 ?_;refine callsIn_of_wp_marks func53 rfl trivial ?_ rfl;simp only[ntmps53,List.size_toArray,List.length_cons,List.length_nil,Nat.reduceAdd,Nat.reduceSub,Array.replicate_succ,Array.replicate_zero,List.push_toArray,List.append_toArray,List.nil_append,List.cons_append];have b0:=Boxed.new w 3 (.int .i64 0);have b1:=Boxed.new (w.alloc (.cells #[.int .i64 0] 3)) 35 (.int .i64 0);rw[World.size_alloc] at b1;replace b0:=b0.alloc (.cells #[.int .i64 0] 35);have dS:Below w.heap.size w ((w.alloc (.cells #[.int .i64 0] 3)).alloc (.cells #[.int .i64 0] 35)):=((vQ _ w).alloc (bQ _) _).alloc (by simp) _;gi_wp2_with fail;refine⟨trivial,rfl,?_⟩;refine (callsIn_wide.2 (valid_any a ha _)).mono ?_;rintro e w1 ⟨rfl,aq⟩;replace b0:=fC b0 aq (by simp; omega);replace b1:=fC b1 aq (by simp);replace dS:=dS.trans (aq.mono (by simp; omega));clear aq;have sj:∀ (W:World) (tmps:Array Value),Boxed W w.heap.size 3 (.int .i64 0)->Boxed W (w.heap.size+1) 35 (.int .i64 11)->Below w.heap.size w W->(Np.aG a.data.toList&&Np.aG b.data.toList)=false->
  tmps[4]?=some (.pointer (some ⟨w.heap.size,0,none⟩))->tmps[5]?=some (.pointer (some ⟨w.heap.size+1,0,none⟩))->
  bodyPostM Fence.wide 0 prog Tryz.f53 (λe w'=>e = .returned (cmpVal a.data.toList b.data.toList)/\Below w.heap.size w w') .ret { tmps:=tmps,defers:=[] } W:=λW tmps c0 c1 hB hv t4 t5=>by
  have d0:=c0.cell;have d1:=c1.cell;exact nJ (v:=.tuple #[.int .i64 0,.int .i64 11]) (by simp[results,results53,go_sem,d0,d1,t4,t5]) ⟨by rw[cmpVal,hv]; rfl,hB⟩
 have zN:=jq sj;clear sj;have c0:=b0.cell;have c1:=b1.cell;have f0:=b0.frozen;have f1:=b1.frozen
 cases va:Np.aG a.data.toList with
 | false=>
  gi_wp2_with fail;refine⟨trivial,?_⟩;gi_wp2_with fail;refine zN.out _ _ (fG (b0.set _) (by simp) _) ((fG b1 (by simp) _).set _) ((dS.setCell (bQ _) _).setCell (by simp) _) (by rw[va]; rfl) rfl rfl
 | true=>
  have VA:=jq va;clear va c0 c1 f0 f1;gi_wp2_with fail;refine⟨trivial,rfl,?_⟩;refine (callsIn_wide.2 (valid_any b hb _)).mono ?_;rintro e w2 ⟨rfl,aa⟩;have aZ:w.heap.size+1<w1.heap.size:=b1.lt;replace b0:=fC b0 aa (by omega);replace b1:=fC b1 aa aZ;replace dS:=dS.trans (aa.mono (by omega));have b7:=aa.size;clear aa;have c0:=b0.cell;have c1:=b1.cell;have f0:=b0.frozen;have f1:=b1.frozen
  cases vb:Np.aG b.data.toList with
  | false=>
   gi_wp2_with fail;refine zN.out _ _ (fG (b0.set _) (by simp) _) ((fG b1 (by simp) _).set _) ((dS.setCell (bQ _) _).setCell (by simp) _) (by rw[vb,Bool.and_false]) rfl rfl
  | true=>
   have VV:Hid ((Np.aG a.data.toList&&Np.aG b.data.toList)=true):=jq (by rw[VA.out,vb]; rfl);clear vb VA zN;by_cases iw:a.data.toList=b.data.toList
   ·have a2K:(a.toList == b.toList)=true:=by rw[dQ,dQ,iw]; simp
    gi_wp2_with fail;have d0:=(fG (b0.set (.int .i64 0)) (p:=⟨w.heap.size+1,0,none⟩) (by simp) (.int .i64 0)).cell;have d1:=((fG b1 (p:=⟨w.heap.size,0,none⟩) (by simp) (.int .i64 0)).set (.int .i64 0)).cell;exact nJ (v:=.tuple #[.int .i64 0,.int .i64 0]) (by simp[results,results53,go_sem,d0,d1]) ⟨by rw[cmpVal,VV.out,iw]; simp[Np.aM],(dS.setCell (bQ _) _).setCell (by simp) _⟩
   ·have a2K:(a.toList == b.toList)=false:=by rw[dQ,dQ]; simpa using iw
    have HV:Hid (cmpVal a.data.toList b.data.toList = .tuple #[.int .i64 (Np.nL (Np.bj a.data.toList) (Np.bj b.data.toList)),.int .i64 0]):=jq (by rw[cmpVal,VV.out]; simp[Np.aM,iw]);clear iw;gi_wp2_with fail;refine⟨trivial,rfl,?_⟩;refine (callsIn_wide.2 (Wt b hb _)).mono ?_;rintro e w3 ⟨rfl,so,ah,dO⟩;have rS:=jq dO;clear dO;replace b0:=fC b0 ah (by omega);replace b1:=fC b1 ah (by omega);replace dS:=dS.trans (ah.mono (by omega));clear ah;have hl:=dS.size;have b8:=Boxed.new w3 156 (.func (.func 159) #[] #[.pointer (some ⟨w2.heap.size+1,0,none⟩),.pointer (some ⟨w2.heap.size,0,none⟩)]);replace b0:=b0.alloc (.cells #[.func (.func 159) #[] #[.pointer (some ⟨w2.heap.size+1,0,none⟩),.pointer (some ⟨w2.heap.size,0,none⟩)]] 156);replace b1:=b1.alloc (.cells #[.func (.func 159) #[] #[.pointer (some ⟨w2.heap.size+1,0,none⟩),.pointer (some ⟨w2.heap.size,0,none⟩)]] 156);replace so:rR (w3.alloc (.cells #[.func (.func 159) #[] #[.pointer (some ⟨w2.heap.size+1,0,none⟩),.pointer (some ⟨w2.heap.size,0,none⟩)]] 156)) (w2.heap.size+1) w2.heap.size (Np.bj b.data.toList):=so.it (B:=w3.heap.size) (S:=λ_=>True) (tD _) trivial trivial;replace dS:=dS.alloc dS.size (.cells #[.func (.func 159) #[] #[.pointer (some ⟨w2.heap.size+1,0,none⟩),.pointer (some ⟨w2.heap.size,0,none⟩)]] 156);clear c0 c1 f0 f1;have n8:=Boxed.new w3 156 .nilFunc;have n8c:=n8.cell;have n8f:=n8.frozen;gi_wp2_with fail;clear n8 n8c n8f;have hEG:=enters_of func159 (by kernel_rfl) rfl;have JA:w.heap.size+1<w2.heap.size:=by omega
    have dl:w3.heap.size=w2.heap.size+2:=rS.out;refine Dh (n₀:=w.heap.size) (w0:=w) (first:=#[.string a]) (captured:=#[]) (gf:=98) rfl (enters_of func98 (by kernel_rfl) rfl) (mk:=λy=>#[.string a,y]) (λ_=>rfl)
     (Da a ha _ w) dS dS.size (λ_=>rfl) (Iz w w.heap.size (w2.heap.size+1) w2.heap.size w3.heap.size (.func (.func 159) #[] #[.pointer (some ⟨w2.heap.size+1,0,none⟩),.pointer (some ⟨w2.heap.size,0,none⟩)]) a.data.toList b.data.toList)
     (Iw w w.heap.size (w2.heap.size+1) w2.heap.size w3.heap.size a.data.toList b.data.toList)
     (MZ _ _ _ _ _ _ _ _ _ dS.size) (λc=>VJ _ _ _ _ _ _ _ _ dS.size c)
     (λk=>k=w.heap.size\/k=w.heap.size+1\/k=w2.heap.size+1\/k=w2.heap.size\/k=w3.heap.size) (by intro k h; omega) (by intro k h; simp; omega)
     ⟨λ_=>Iff.rfl,b0,b1,b8,⟨_,so,λrest h=>by rw[h]; rfl⟩,dS⟩ ?round ?done ?stop
    case round=>
     rintro l0 pre x S W cC hI gk;clear dl;gi_wp2;refine⟨S,RdStep.refl _ _,λk e=>.inl e,gk,?_⟩;intro l W₂ aB;obtain⟨hS,c0,c1,c8,⟨rem,hp,B9⟩,hB⟩:=MZ w w.heap.size _ _ _ _ _ _ _ dS.size pre S W W₂ hI aB;have c8c:=c8.cell;have nr:∀ k,S k->k<W₂.heap.size:=λk e=>lQ (gk k e) aB.size;have hx:x∈Np.bj a.data.toList:=cC.subset (by simp);have ue:x.length<=140737488355328:=by have:=Np.DS hx; rw[bn] at this; omega
     obtain⟨rest,sJ⟩:=cC;have kC:=B9 (x::rest) (by rw[<-sJ]; simp);have HR:=jq sJ;have HG:=jq kC;clear sJ kC B9 hx hI aB b0 b1 b8 so;gi_wp2_with fail;refine⟨trivial,rfl,?_⟩;refine (CallsIn.inRound l (callsIn_wide.2 (YQ (w2.heap.size+1) w2.heap.size (by omega) rem _ hp))).mono ?_;intro e W3 hP;rcases hP.rd with ⟨mC,rfl,rfl⟩ | ⟨y,rem',mC,rfl,hp',bA,eF,cD⟩
     ·have c0c:=c0.cell;have c1c:=c1.cell;have c0f:=c0.frozen;have c1f:=c1.frozen;have K1:=jq mC;clear mC hP;gi_wp2_with fail;exact Pb hS (RdStep.refl S _) nr c0 c1 hB (by rw[HG.out,K1.out]; rfl)
     ·have K1:=jq mC;replace c0:=eF _ _ _ (by omega) (by omega) c0;replace c1:=eF _ _ _ (by omega) (by omega) c1;replace c8:=eF _ _ _ (by have:=rS.out; omega) (by have:=rS.out; omega) c8;have KB:=bA S ((hS _).2 (.inr (.inr (.inl rfl)))) ((hS _).2 (.inr (.inr (.inr (.inl rfl)))));have hB':=cD w.heap.size w (by omega) (by omega) hB;have c0c:=c0.cell;have c1c:=c1.cell;have c0f:=c0.frozen;have c1f:=c1.frozen;clear mC hP bA eF cD c8c hp hB;have kC:Np.nL (Np.bj a.data.toList) (Np.bj b.data.toList)=if Np.cP x y≠0 then Np.cP x y else Np.nL rest rem':=by rw[HG.out,K1.out]; rfl
      have SX:=jq kC;clear kC HG;have bT:=TL ⟨x.toArray⟩ ⟨y.toArray⟩ W3;by_cases hc:Np.cP x y=0
      ·have eB:(Np.cP x y != 0)=false:=by simp[hc]
       have HC:=jq hc;clear hc;gi_wp2_with (refine⟨trivial,rfl,?_⟩; gi_at_call 99; refine (CallsIn.inRound l (callsIn_wide.2 bT)).mono ?_; rintro e w' ⟨rfl,rfl⟩);refine⟨S,KB,λ_ e=>.inl e,λk e=>by have:=nr k e; have:=KB.size; omega,hS,c0,c1,c8,⟨rem',hp',λr hr=>?_⟩,hB'⟩
       have:r=rest:=List.append_cancel_left (hr.symm.trans HR.out.symm)
       rw[SX.out,Qc (λh=>h HC.out),this]
      ·have eB:(Np.cP x y != 0)=true:=by simpa using hc
       have HC:=jq hc;clear hc;gi_wp2_with (refine⟨trivial,rfl,?_⟩; gi_at_call 99; refine (CallsIn.inRound l (callsIn_wide.2 bT)).mono ?_; rintro e w' ⟨rfl,rfl⟩);exact Pb hS KB nr c0 c1 hB' (by rw[SX.out,Qb HC.out])
    case done=>
     rintro D S W hD g9 bM ⟨hS,c0,c1,c8,⟨rem,hp,B9⟩,hB⟩ hK;clear dl b0 b1 b8 so;have c0c:=c0.cell;have c1c:=c1.cell;have c0f:=c0.frozen;have c1f:=c1.frozen;have xK:Np.nL (Np.bj a.data.toList) (Np.bj b.data.toList) = -1:=by rw[B9 [] (by simp)]; rfl
     have HE:=jq xK;have Fh:w.heap.size≠D:=λe=>g9 ((hS _).2 (.inl e.symm));have Fp:w.heap.size+1≠D:=λe=>g9 ((hS _).2 (.inr (.inl e.symm)));have I0:w.heap.size<=D:=by have:=dS.size; omega
     clear xK B9 hp c8;gi_wp2;have hK':((W.setCell ⟨w.heap.size,0,none⟩ (.int .i64 (-1))).setCell ⟨w.heap.size+1,0,none⟩ (.int .i64 0)).heap[D]?=some (.deferred (some [])):=
      (wQ _ _ _ _ (by simpa using Fp.symm)).trans ((wQ _ _ _ _ (by simpa using Fh.symm)).trans hK)
     have d0:=(u7 (fG (c0.set (.int .i64 (-1))) (p:=⟨w.heap.size+1,0,none⟩) (by simp) (.int .i64 0)) Fh (.deferred none)).cell;have d1:=(u7 ((fG c1 (p:=⟨w.heap.size,0,none⟩) (by simp) (.int .i64 (-1))).set (.int .i64 0)) Fp (.deferred none)).cell;exact pI hK' (v:=.tuple #[.int .i64 (-1),.int .i64 0]) (by simp[results,results53,go_sem,d0,d1]) ⟨by rw[HV.out,HE.out],py ((hB.setCell (bQ _) _).setCell (by simp) _) I0 _⟩
    case stop=>
     rintro D c pre S W hD g9 bM jf ⟨rfl,hS,c0,c1,hB⟩ hK;clear dl b0 b1 b8 so;have Fh:w.heap.size≠D:=λe=>g9 ((hS _).2 (.inl e.symm));have Fp:w.heap.size+1≠D:=λe=>g9 ((hS _).2 (.inr (.inl e.symm)));have I0:w.heap.size<=D:=by have:=dS.size; omega
     gi_wp2;have d0:=(u7 c0 Fh (.deferred none)).cell;have d1:=(u7 c1 Fp (.deferred none)).cell;exact pI hK (v:=.tuple #[.int .i64 (Np.nL (Np.bj a.data.toList) (Np.bj b.data.toList)),.int .i64 0]) (by simp[results,results53,go_sem,d0,d1]) ⟨by rw[HV.out],py hB I0 _⟩
end D
section
open Go.RowKit
def cmpVal(a b:List UInt8):Value:=if Np.aG a&&Np.aG b then .tuple #[.int .i64 (Np.aM a b),.int .i64 0] else .tuple #[.int .i64 0,.int .i64 11]
theorem compare_any(a b:ByteArray)(ha:a.size<=140737488355328)(hb:b.size<=140737488355328)(w:World) :
 Calls prog 53 #[.string a,.string b] w λe w'=>e = .returned (cmpVal a.data.toList b.data.toList)/\Below w.heap.size w w':=
 (D.compare_any a b ha hb w).mono λ_ _ h=>⟨h.1,h.2.low⟩
end
namespace Np
inductive Res (α:Type) where
 | ok (a:α) (r:List Tok)
 | err (e:Int) (r:List Tok)
deriving DecidableEq
structure Diag where
 err:Int
 pos:Int
deriving DecidableEq
end Np
end Go.Proofs.YtbfbobfbgabjiaaGreatDoor
