/- Functions of the given program as Lean functions, each with its contract, and what they answer; words for it. No condition but those of each. -/
import Derived.Test.YtjknpmibdkoklaaMNS
import Derived.Test.YtjknpmibdkoklaaMNR
import Derived.Test.YtjknpmibdkoklaaMN20
import Derived.Test.YtjknpmibdkoklaaMN21
import Derived.Test.YtjknpmibdkoklaaMN15
import Derived.Test.YtjknpmibdkoklaaMN14
import Derived.Test.YtjknpmibdkoklaaMN8
import Derived.LoopTactic
import Derived.Shelf.Abstract
import Derived.Test.YtjknpmibdkoklaaMN3
set_option linter.unusedVariables false
set_option linter.unusedSimpArgs false
set_option maxRecDepth 100000
namespace Go.Proofs.Ytjknpmibdkoklaa.Q
open Go.RowKit Go.Proofs.YtjknpmibdkoklaaW.PrintWords Go.Proofs.YtjknpmibdkoklaaW.PrintLast Go.Proofs.YtjknpmibdkoklaaW.PrintMore
def e74 (s:Sm):S74:=⟨s.1,s.2.1,s.2.2.1,s.2.2.2⟩
theorem ziv {a b:Sm} (wa:Wf a 1000) (wb:Wf b 1000):∃z:Sm,Ev (fun k=>if(a.1.length:Int)>0 then zae.j1 k [e74 a,e74 b] (decide ((b.1.length:Int)>0))else zae.j1 k [e74 a,e74 b] false) z∧nrm z=zfT a b:=by
 have r:Ev (fun k=>zae.j1 k [e74 a,e74 b] true) ([],[],0,90):=Ev.step (f:=fun _=>some ([],[],0,90)) (fun k=>by
  conv=>lhs;rw[zae.j1]
  rw[if_pos rfl]) (Ev.now _)
 unfold zfT
 by_cases hA:a.1.length>0
 ·rw[if_pos hA]
  by_cases hB:b.1.length>0
  ·rw[if_pos hB]
   exact⟨([],[],0,90),Ev.congr (fun k=>by rw[if_pos kq1,decide_eq_true kq1]) r,rfl⟩
  ·rw[if_neg hB]
   obtain⟨s,hs,hr⟩:=zhW (n:=b.2.2.1) wa kq1 wb.const
   refine⟨s,Ev.congr (fun k=>by rw[if_pos kq1,decide_eq_false kq1]) (Ev.step (f:=fun _=>some s) (fun k=>?_) (Ev.now _)),hr⟩
   conv=>lhs;rw[zae.j1]
   rw[if_neg kq2,if_pos (by simp),if_pos (by show(a.1.length:Int)>0;omega),if_pos (by simp)]
   show(zbd.f a.1 a.2.1 a.2.2.1 a.2.2.2 b.2.2.1).bind _=_
   rw[hs]
   rfl
 ·rw[if_neg hA]
  obtain⟨s,hs,hr⟩:=zhW (n:=a.2.2.1) wb kq1 wa.const
  refine⟨s,Ev.congr (fun k=>by rw[if_neg kq1]) (Ev.step (f:=fun _=>some s) (fun k=>?_) (Ev.now _)),hr⟩
  conv=>lhs;rw[zae.j1]
  rw[if_neg kq2,if_pos (by simp),if_neg (by show ¬(a.1.length:Int)>0;omega),if_pos (by simp)]
  show(zbd.f b.1 b.2.1 b.2.2.1 b.2.2.2 a.2.2.1).bind _=_
  rw[hs]
  rfl
theorem zh0:∀(n:Nat) (t:S66),zdS t→FitT t→cntT t≤n→n≤1000→∃s:Sm,Ev (fun k=>zae.f k t.f0 t.f1 t.f2 t.f3) s∧nrm s=sumT t
 |0,t,_,_,h,_=>absurd (zdR t) kq1
 |n+1,t,hr,hf,h,hn=>by
  have hc:cntT t=1+zdz t.f3:=by cases t;rw[cntT]
  obtain⟨ho,hs⟩:=zeH hr
  have ih:∀u ∈ t.f3,(∃s:Sm,Ev (fun k=>zae.f k u.f0 u.f1 u.f2 u.f3) s∧nrm s=sumT u)∧Wf (sumT u) 1000:=fun u hu=>by
   have:=zdT u hu
   exact⟨zh0 n u (zcx hs u hu) (hf.sub u hu) kq1 kq1,(zfo n u (zcx hs u hu) (hf.sub u hu) kq1).up kq1⟩
  rw[zgg]
  rcases zeI ho with⟨h0,hl⟩|⟨h1,hn,hl⟩|⟨h2,u,hl⟩|⟨J,u,v,hl⟩
  ·rw[if_pos h0]
   refine⟨([],[],t.f1,0),Ev.step (f:=fun _=>some ([],[],t.f1,0)) (fun k=>?_) (Ev.now _),rfl⟩
   show zae.f (k+1) t.f0 t.f1 t.f2 t.f3=_
   conv=>lhs;unfold zae.f
   rw[if_pos h0]
  ·rw[if_neg kq1,if_pos h1]
   refine⟨([t.f2],[1],0,0),Ev.step (f:=fun _=>some ([t.f2],[1],0,0)) (fun k=>?_) (Ev.now _),rfl⟩
   show zae.f (k+1) t.f0 t.f1 t.f2 t.f3=_
   conv=>lhs;unfold zae.f
   rw[if_neg kq1,if_pos h1]
  ·rw[if_neg kq1,if_neg kq1]
   rw[hl]at ih ⊢
   obtain⟨⟨s,es,ns⟩,wu⟩:=ih u (.head _)
   have key:∃z:Sm,Ev (fun k=>zae.l0 k [] 0 t.f0 t.f1 t.f2 [u]) z∧nrm z=zdl t.f0 [sumT u]:=by
    have step:∀k,zae.l0 (k+1) [] 0 t.f0 t.f1 t.f2 [u]=(zae.f k u.f0 u.f1 u.f2 u.f3).bind fun bt=>(if bt.2.2.2=0 then zae.l0 k [e74 bt] 1 t.f0 t.f1 t.f2 [u]else some bt):=fun k=>by
     conv=>lhs;rw[zae.l0]
     rw[if_pos (by simp),if_pos kq2,ziU]
     congr 1
     funext bt
     by_cases hb:bt.2.2.2=0
     ·rw[if_pos hb,if_pos hb,if_pos (by simp),show wrap64 (0+1)=1 by unfold wrap64;omega]
      rfl
     ·rw[if_neg hb,if_neg hb]
    rw[ziT]
    by_cases hb:(sumT u).2.2.2=0
    ·obtain⟨ws,rfl⟩:=zg8 ns hb wu
     rw[if_neg (fun h=>h hb)]
     obtain⟨z,hz,nz,_⟩:=zgi true (a:=([],[],0,0)) (Wf.num zdC 0) wu kq1 kq1
     refine⟨z,Ev.step step (Ev.bind es (Ev.congr (fun k=>if_pos hb) (Ev.step (f:=fun _=>some z) (fun k=>?_) (Ev.now _)))),nz⟩
     conv=>lhs;rw[zae.l0]
     rw[if_neg (by simp),if_pos h2,if_pos (by simp)]
     show(zbe.f [] [] 0 0 (sumT u).1 (sumT u).2.1 (sumT u).2.2.1 (sumT u).2.2.2 true).bind _=_
     rw[hz]
     rfl
    ·rw[if_pos hb]
     exact⟨s,Ev.step step (Ev.bind es (Ev.congr (fun k=>if_neg (zd6 ns hb)) (Ev.now _))),ns⟩
   obtain⟨z,ez,nz⟩:=key
   refine⟨z,Ev.step (f:=fun k=>zae.l0 k [] 0 t.f0 t.f1 t.f2 [u]) (fun k=>?_) ez,nz⟩
   show zae.f (k+1) t.f0 t.f1 t.f2 [u]=_
   conv=>lhs;unfold zae.f
   rw[if_neg kq1,if_neg kq1]
  ·rw[if_neg kq1,if_neg kq1]
   rw[hl]at ih ⊢
   obtain⟨⟨s,es,ns⟩,wu⟩:=ih u (.head _)
   obtain⟨⟨s',es',ns'⟩,wv⟩:=ih v (.tail _ (.head _))
   have key:∃z:Sm,Ev (fun k=>zae.l0 k [] 0 t.f0 t.f1 t.f2 [u,v]) z∧nrm z=zdl t.f0 [sumT u,sumT v]:=by
    have step:∀k,zae.l0 (k+1) [] 0 t.f0 t.f1 t.f2 [u,v]=(zae.f k u.f0 u.f1 u.f2 u.f3).bind fun bt=>(if bt.2.2.2=0 then zae.l0 k [e74 bt] 1 t.f0 t.f1 t.f2 [u,v]else some bt):=fun k=>by
     conv=>lhs;rw[zae.l0]
     rw[if_pos (by simp),if_pos kq2,zgk]
     congr 1
     funext bt
     by_cases hb:bt.2.2.2=0
     ·rw[if_pos hb,if_pos hb,if_pos (by simp),show wrap64 (0+1)=1 by unfold wrap64;omega]
      rfl
     ·rw[if_neg hb,if_neg hb]
    have step2:∀(a:Sm) k,zae.l0 (k+1) [e74 a] 1 t.f0 t.f1 t.f2 [u,v]=(zae.f k v.f0 v.f1 v.f2 v.f3).bind fun bt=>(if bt.2.2.2=0 then zae.l0 k [e74 a,e74 bt] 2 t.f0 t.f1 t.f2 [u,v]else some bt):=fun a k=>by
     conv=>lhs;rw[zae.l0]
     rw[if_pos (by simp),if_pos kq2,zgl]
     congr 1
     funext bt
     by_cases hb:bt.2.2.2=0
     ·rw[if_pos hb,if_pos hb,if_pos (by simp),show wrap64 (1+1)=2 by unfold wrap64;omega]
      rfl
     ·rw[if_neg hb,if_neg hb]
    rw[ze8]
    by_cases ha:(sumT u).2.2.2=0
    ·obtain⟨ws,G⟩:=zg8 ns ha wu
     subst G
     rw[if_neg (fun h=>h ha)]
     by_cases hb:(sumT v).2.2.2=0
     ·obtain⟨ws',I⟩:=zg8 ns' hb wv
      subst I
      rw[if_neg (fun h=>h hb)]
      have fin:∀z:Sm,Ev (fun k=>zae.l0 k [e74 (sumT u),e74 (sumT v)] 2 t.f0 t.f1 t.f2 [u,v]) z→Ev (fun k=>zae.l0 k [] 0 t.f0 t.f1 t.f2 [u,v]) z:=fun z hz=>
       Ev.step step (Ev.bind es (Ev.congr (fun k=>if_pos ha) (Ev.step (step2 (sumT u)) (Ev.bind es' (Ev.congr (fun k=>if_pos hb) hz)))))
      by_cases r:t.f0=3
      ·rw[if_pos r]
       obtain⟨z,hz,nz,_⟩:=zgi false wu wv kq1 kq1
       refine⟨z,fin z (Ev.step (f:=fun _=>some z) (fun k=>?_) (Ev.now _)),nz⟩
       conv=>lhs;rw[zae.l0]
       rw[if_neg (by simp),if_neg kq1,if_pos r,if_pos (by simp),if_pos (by simp)]
       show(zbe.f (sumT u).1 (sumT u).2.1 (sumT u).2.2.1 (sumT u).2.2.2 (sumT v).1 (sumT v).2.1 (sumT v).2.2.1 (sumT v).2.2.2 false).bind _=_
       rw[hz]
       rfl
      ·rw[if_neg r]
       by_cases D:t.f0=4
       ·rw[if_pos D]
        obtain⟨z,hz,nz,_⟩:=zgi true wu wv kq1 kq1
        refine⟨z,fin z (Ev.step (f:=fun _=>some z) (fun k=>?_) (Ev.now _)),nz⟩
        conv=>lhs;rw[zae.l0]
        rw[if_neg (by simp),if_neg kq1,if_neg r,if_pos D,if_pos (by simp),if_pos (by simp)]
        show(zbe.f (sumT u).1 (sumT u).2.1 (sumT u).2.2.1 (sumT u).2.2.2 (sumT v).1 (sumT v).2.1 (sumT v).2.2.1 (sumT v).2.2.2 true).bind _=_
        rw[hz]
        rfl
       ·rw[if_neg D]
        obtain⟨z,hz,nz⟩:=ziv wu wv
        refine⟨z,fin z (Ev.step (fun k=>?_) hz),nz⟩
        conv=>lhs;rw[zae.l0]
        rw[if_neg (by simp),if_neg kq1,if_neg r,if_neg D,if_pos (by simp)]
        rfl
     ·rw[if_pos hb]
      exact⟨s',Ev.step step (Ev.bind es (Ev.congr (fun k=>if_pos ha) (Ev.step (step2 (sumT u)) (Ev.bind es' (Ev.congr (fun k=>if_neg (zd6 ns' hb)) (Ev.now _)))))),ns'⟩
    ·rw[if_pos ha]
     exact⟨s,Ev.step step (Ev.bind es (Ev.congr (fun k=>if_neg (zd6 ns ha)) (Ev.now _))),ns⟩
   obtain⟨z,ez,nz⟩:=key
   refine⟨z,Ev.step (f:=fun k=>zae.l0 k [] 0 t.f0 t.f1 t.f2 [u,v]) (fun k=>?_) ez,nz⟩
   show zae.f (k+1) t.f0 t.f1 t.f2 [u,v]=_
   conv=>lhs;unfold zae.f
   rw[if_neg kq1,if_neg kq1]
end Go.Proofs.Ytjknpmibdkoklaa.Q
set_option maxRecDepth 100000
namespace Go.Proofs.Ytjknpmibdkoklaa.Q
open Go.RowKit Go.Proofs.YtjknpmibdkoklaaW.PrintWords Go.Proofs.YtjknpmibdkoklaaW.PrintLast Go.Proofs.YtjknpmibdkoklaaW.PrintMore
open Aside0 (mk)
def negP (a:Int):Int × Int:=(zc5.f a).getD (0,0)
theorem zjy (a:Int):zc5.f a=some ((negP a).1,(negP a).2):=by
 unfold negP zc5.f
 rw[zfM]
 rfl
def zdm (c m:Int):Int × Int:=(zcP.f c m).getD (0,0)
theorem zgQ (c m:Int):zcP.f c m=some ((zdm c m).1,(zdm c m).2):=by
 have h:∃p,zcP.f c m=some p:=by
  unfold zcP.f
  by_cases h1:m<1
  ·exact⟨_,if_pos h1⟩
  ·rw[if_neg h1,if_neg kq1]
   split<;>exact⟨_,rfl⟩
 obtain⟨p,hp⟩:=h
 unfold zdm
 rw[hp]
 rfl
def zcG (m:Int) (cs:List Int) (i:Nat):List Int:=(cs.take i).map (fun c=>(zdm c m).1)++cs.drop i
theorem zgm (m:Int) (cs:List Int):zcG m cs 0=cs:=by simp [zcG]
theorem zfp (m:Int) (cs:List Int) (i:Nat):(zcG m cs i).length=cs.length:=by simp [zcG];omega
theorem zg9 (m:Int) (cs:List Int):zcG m cs cs.length=cs.map fun c=>(zdm c m).1:=by simp [zcG]
theorem zh1 (m:Int) (cs:List Int) (i:Nat) (h:i<cs.length):rdOf 0 (zcG m cs i) (i:Int)=cs[i]:=by
 unfold rdOf zcG
 rw[Int.toNat_natCast,List.getD_eq_getElem?_getD,List.getElem?_append_right (by simp;omega)]
 simp [List.getElem?_drop,Nat.min_eq_left (Nat.le_of_lt h),List.getElem?_eq_getElem h]
theorem zha (m:Int) (cs:List Int) (i:Nat) (h:i<cs.length):(zcG m cs i).set i (zdm cs[i] m).1=zcG m cs (i+1):=by
 unfold zcG
 rw[List.set_append_right _ _ (by simp;omega),List.take_succ_eq_append_getElem h,List.map_append,List.append_assoc]
 congr 1
 simp only[List.length_map,List.length_take,Nat.min_eq_left (Nat.le_of_lt h),Nat.sub_self]
 rw[List.drop_eq_getElem_cons h]
 rfl
set_option maxHeartbeats 8000000 in
theorem zgn (g:Nat) (kd b md:Int) (vn vc:Value) (cs:List Int) (w0 w:World) (hw:w0.heap.size≤g) (hB:Below w0.heap.size w0 w) (hg:w.heap[g]?=some (.cells #[.int .i64 kd,vn,vc,.int .i64 b,.int .i64 md] 58 (0,0))) (hc:Kd.R (Kd.int .i64) 2 w w0.heap.size (fun _=>True) vc cs) (hl:cs.length≤1000000) :
 Calls Try.prog 86 #[.pointer (some ⟨g,0,none⟩)] w fun e w'=>e= .returned (.tuple #[])∧w'.heap[g]?=some (.cells #[.int .i64 kd,vn,vc,.int .i64 (zdm b md).1,.int .i64 md] 58 (0,0))∧Kd.R (Kd.int .i64) 2 w' w0.heap.size (fun _=>True) vc (cs.map fun c=>(zdm c md).1)∧za6 w w' g vc.ownBlock∧Below w0.heap.size w0 w':=by
 have L:=Try.underlying58
 obtain⟨A,c,rfl⟩:=Kd.R_slice hc
 have BKg:=mk hg
 have HLL:=mk hl
 have HW:=mk hw
 have HRc:=mk (show Kd.R (Kd.int .i64) 2 w w0.heap.size (fun _=>True) (.slice A cs.length c) (zcG md cs 0) by rw[zgm];exact hc)
 have HB:=mk hB
 have HK:=mk (za6.refl w g (Value.slice A cs.length c).ownBlock)
 clear hg hl hw hc hB
 go_enter Try.func86,Try.ntmps86
 have J:w.cell? ⟨g,2,none⟩=some (.slice A cs.length c):=bk_ BKg 2
 go_wp2
 clear J
 go_loopg [9] cs.length (fun gq v9 wr=>∃(i:Nat),v9= .int .i64 i∧Aside0 (i≤cs.length)∧Aside0 (cs.length-i≤gq)∧Aside0 (wr.heap[g]?=some (.cells #[.int .i64 kd,vn,.slice A cs.length c,.int .i64 b,.int .i64 md] 58 (0,0)))∧Aside0 (Kd.R (Kd.int .i64) 2 wr w0.heap.size (fun _=>True) (.slice A cs.length c) (zcG md cs i))∧Aside0 (za6 w wr g (Value.slice A cs.length c).ownBlock)∧Aside0 (Below w0.heap.size w0 wr))
 case atStart=>exact⟨0,rfl,⟨Nat.zero_le _⟩,⟨kq1⟩,BKg,HRc,HK,HB⟩
 case round=>
  clear BKg HRc HK HB
  obtain⟨i,rfl,HI,HQ,BKg,HRc,HK,HB⟩:=hrel
  by_cases hi:i<cs.length
  ·have hiz:(i:Int)<(cs.length:Int):=by omega
   have I:(0:Int)≤(i:Int):=by omega
   have hln:=zfp md cs i
   obtain⟨h,cap,ev,hbh,hlh,cells_,hcells⟩:=Kd.R_form HRc.out (by rw[hln];omega)
   injection ev with ev1 ev2 ev3
   subst ev1 ev3
   rw[hln]at ev2
   clear ev2
   have hx:=(Kd.R_celln 0 HRc.out (i:Int) I hiz)
   rw[Int.toNat_natCast,show rdOf 0 (zcG md cs i) (i:Int)=cs[i]from zh1 md cs i hi]at hx
   obtain⟨hx,hxf⟩:=hx
   have HST:=mk (zha md cs i hi)
   have hne:h≠g:=fun e=>by subst e;have q_:=BKg.out.symm.trans hcells;injection q_ with q_;injection q_ with _ q_;exact absurd q_ kq2
   have HNE:=mk hne
   have HHG:=mk (show w0.heap.size≤h from hbh)
   clear hln hcells hlh hbh hne
   generalize cs[i]=x at hx HST
   go_wp2
   refine zbv (n:=16) (S:=fun w'=>w'.cell? ⟨g,2,none⟩=some (.slice (some ⟨h,0,none⟩) cs.length c)∧w'.cell? ⟨g,4,none⟩=some (.int .i64 md)) (ds:=[15]) #[false,false,false,false,false,false,false,false,false,false,false,false,false,false,false,false] kq0 rfl rfl ⟨bk_ BKg 2,bk_ BKg 4⟩ (fun hHeld=>?_)
   replace BKg:Aside0 (wr.drew.heap[g]?=some (.cells #[.int .i64 kd,vn,.slice (some ⟨h,0,none⟩) cs.length c,.int .i64 b,.int .i64 md] 58 (0,0))):=⟨BKg.out⟩
   replace HRc:Aside0 (Kd.R (Kd.int .i64) 2 wr.drew w0.heap.size (fun _=>True) (.slice (some ⟨h,0,none⟩) cs.length c) (zcG md cs i)):=⟨HRc.out⟩
   replace HK:Aside0 (za6 w wr.drew g (some h)):=⟨HK.out⟩
   replace HB:Aside0 (Below w0.heap.size w0 wr.drew):=⟨zaP HB.out⟩
   generalize wr.drew=U at BKg HRc HK HB hHeld ⊢
   refine pu_ 0 15 ?_
   refine pu_ 1 16 ?_
   refine pu_ 2 17 ?_
   refine ta_ 3 18 hHeld ?_
   refine pu_ 4 19 ?_
   refine pu_ 5 20 ?_
   refine pu_ 6 21 ?_
   refine pu_ 7 22 ?_
   refine pu_ 8 23 ?_
   refine ta_ 9 24 hHeld ?_
   refine on_ 10 25 (fun K hK=>?_)
   refine zbj Try.func124 kq0 rfl #[.int .i64 x,.int .i64 md] (by rfl) rfl rfl kq54 ?_
   refine(zcP.calls x md _ _ _ (zgQ x md)).mono ?_
   rintro e M ⟨rfl,hd⟩
   have hb:=hd.below
   clear hd
   refine⟨_,rfl,?_⟩
   have f:=mk (zai BKg.out hb)
   have r:=mk (Kd.R_below HRc.out hb)
   have D:=mk (za6.trans HK.out (za6.of_below hb g _) (.inl rfl))
   have G:=mk (zdZ HB.out HB.out.size hb)
   clear BKg HRc HK HB
   have BKg:=f
   have HRc:=r
   have HK:=D
   have HB:=G
   clear f r D G
   clear hb
   refine hK.out _ _ ⟨bk_ BKg 2,bk_ BKg 4⟩ (fun hHeld=>?_)
   clear hK K
   refine za2 (a':=?_) ?_ ?_
   rotate_left
   ·show Act.put _ (some 25) _=_
    simp only[Act.put,List.setIfInBounds_toArray,List.set_cons_zero,List.set_cons_succ]
    rfl
   refine pu_ 11 14 ?_
   refine pu_ 12 26 ?_
   refine pu_ 13 27 ?_
   refine pu_ 14 28 ?_
   have hput:=Kd.R_putg HRc.out (i:Int) (zdm x md).1
   rw[Int.toNat_natCast,HST.out]at hput
   have hxc:=(Kd.R_celln 0 HRc.out (i:Int) I hiz)
   rw[Int.toNat_natCast]at hxc
   obtain⟨hxc,hxg⟩:=hxc
   refine zb4 (i:=15) (N:=none) #[true,true,true,true,true,true,true,true,true,true,true,true,true,true,true,true] rfl rfl kq0 kq2 (fun K hK=>?_)
   refine zbO (w1:=?_) (by rfl) rfl ?_ ?_
   rotate_left
   ·go_simp
    rfl
   refine hK.out _ _ ?_
   clear hK K
   refine zbC kq0 ?_
   try go_wp2
   go_roundg (cs.length-(i+1))
   case measure=>have:=HQ.out;omega
   case rel=>
    exact⟨i+1,(kq64 HLL),⟨kq1⟩,⟨kq1⟩,⟨zaj BKg.out (Ne.symm HNE.out) _⟩,⟨hput.1⟩,⟨za6.trans HK.out (za6.of_grown hput.2 g) (.inl rfl)⟩,⟨HB.out.setCell HHG.out _⟩⟩
  ·have hiz:¬(i:Int)<(cs.length:Int):=by omega
   have hil:i=cs.length:=by have:=HI.out;omega
   subst hil
   have HRd:=mk (show Kd.R (Kd.int .i64) 2 wr w0.heap.size (fun _=>True) (.slice A cs.length c) (cs.map fun c=>(zdm c md).1) by have q_:=HRc.out;rw[zg9]at q_;exact q_)
   clear HRc
   go_wp2
   refine zbv (n:=16) (S:=fun w'=>w'.cell? ⟨g,3,none⟩=some (.int .i64 b)∧w'.cell? ⟨g,4,none⟩=some (.int .i64 md)) (ds:=[15]) #[false,false,false,false,false,false,false,false,false,false,false,false,false,false,false,false] kq0 rfl rfl ⟨bk_ BKg 3,bk_ BKg 4⟩ (fun hHeld=>?_)
   replace BKg:Aside0 (wr.drew.heap[g]?=some (.cells #[.int .i64 kd,vn,.slice A cs.length c,.int .i64 b,.int .i64 md] 58 (0,0))):=⟨BKg.out⟩
   replace HRd:Aside0 (Kd.R (Kd.int .i64) 2 wr.drew w0.heap.size (fun _=>True) (.slice A cs.length c) (cs.map fun c=>(zdm c md).1)):=⟨HRd.out⟩
   replace HK:Aside0 (za6 w wr.drew g (Value.slice A cs.length c).ownBlock):=⟨HK.out⟩
   replace HB:Aside0 (Below w0.heap.size w0 wr.drew):=⟨zaP HB.out⟩
   generalize wr.drew=U at BKg HRd HK HB hHeld ⊢
   refine pu_ 0 31 ?_
   refine pu_ 1 32 ?_
   refine pu_ 2 33 ?_
   refine pu_ 3 34 ?_
   refine ta_ 4 35 hHeld ?_
   refine pu_ 5 36 ?_
   refine pu_ 6 37 ?_
   refine pu_ 7 38 ?_
   refine ta_ 8 39 hHeld ?_
   refine on_ 9 40 (fun K hK=>?_)
   refine zbj Try.func124 kq0 rfl #[.int .i64 b,.int .i64 md] (by rfl) rfl rfl kq54 ?_
   refine(zcP.calls b md _ _ _ (zgQ b md)).mono ?_
   rintro e M ⟨rfl,hd⟩
   have hb:=hd.below
   clear hd
   refine⟨_,rfl,?_⟩
   have f:=mk (zai BKg.out hb)
   have r:=mk (Kd.R_below HRd.out hb)
   have D:=mk (za6.trans HK.out (za6.of_below hb g _) (.inl rfl))
   have G:=mk (zdZ HB.out HB.out.size hb)
   clear BKg HRd HK HB
   have BKg:=f
   have HRd:=r
   have HK:=D
   have HB:=G
   clear f r D G
   clear hb
   refine hK.out _ _ ⟨bk_ BKg 3,bk_ BKg 4⟩ (fun hHeld=>?_)
   clear hK K
   refine za2 (a':=?_) ?_ ?_
   rotate_left
   ·show Act.put _ (some 40) _=_
    simp only[Act.put,List.setIfInBounds_toArray,List.set_cons_zero,List.set_cons_succ]
    rfl
   refine pu_ 10 30 ?_
   refine pu_ 11 41 ?_
   refine pu_ 12 42 ?_
   refine pu_ 13 43 ?_
   refine pu_ 14 44 ?_
   have X:M.cell? ⟨g,3,none⟩=some (.int .i64 b):=bk_ BKg 3
   have Y:=zaD BKg.out 3
   refine zb4 (i:=15) (N:=none) #[true,true,true,true,true,true,true,true,true,true,true,true,true,true,true,true] rfl rfl kq0 kq2 (fun K hK=>?_)
   refine zbO (w1:=?_) (by rfl) rfl ?_ ?_
   rotate_left
   ·go_simp
    rfl
   refine hK.out _ _ ?_
   clear hK K
   refine zbC kq0 ?_
   try go_wp2
   first|go_end0|((try simp only[Exit.inBlock,Exit.then]);refine bodyPost_ret (results_none rfl _ _ _) rfl ?_)
   exact⟨rfl,zak BKg.out 3 _ rfl,Kd.R_set HRd.out BKg.out kq2 3 _,za6.set_ HK.out _ _,HB.out.setCell HW.out _⟩
theorem zgR (u0:Value) (r:List ByteArray) (u1:Value) (D:List Int) (ka ea:Int) (v0:Value) (G:List ByteArray) (v1:Value) (I:List Int) (kb eb:Int) (r1:List ByteArray) (r2:List Int) (r3 r4:Int) (w0 w:World) (hB:Below w0.heap.size w0 w) (h0:Kd.R Kd.string 9 w w0.heap.size (fun _=>True) u0 r) (h1:Kd.R (Kd.int .i64) 2 w w0.heap.size (fun _=>True) u1 D) (h2:Kd.R Kd.string 9 w w0.heap.size (fun _=>True) v0 G) (J:Kd.R (Kd.int .i64) 2 w w0.heap.size (fun _=>True) v1 I) (h:zbc.f r D ka ea G I kb eb 1=some (r1,r2,r3,r4)) :
 Calls Try.prog 82 #[.agg #[u0,u1,.int .i64 ka,.int .i64 ea],.agg #[v0,v1,.int .i64 kb,.int .i64 eb],.func (.func 83) #[] #[]] w fun e w'=>∃x0 x1:Value,e= .returned (.agg #[x0,x1,.int .i64 r3,.int .i64 r4])∧Kd.R Kd.string 9 w' w0.heap.size (fun _=>True) x0 r1∧Kd.R (Kd.int .i64) 2 w' w0.heap.size (fun _=>True) x1 r2∧Below w.heap.size w w':=by
 obtain⟨L,M,rfl⟩:=Kd.R_slice h0
 obtain⟨U,X,rfl⟩:=Kd.R_slice h1
 obtain⟨B0,Y,rfl⟩:=Kd.R_slice h2
 obtain⟨B1,Z,rfl⟩:=Kd.R_slice J
 unfold zbc.f at h
 by_cases ha:ea=0
 ·rw[if_neg (by simp [ha])]at h
  by_cases hb:eb=0
  ·rw[if_neg (by simp [hb])]at h
   split at h
   ·rename_i hl
    simp only[if_true,Option.some.injEq,Prod.mk.injEq]at h
    obtain⟨rfl,rfl,rfl,rfl⟩:=h
    refine(zeh L M r U X D ka ea B0 Y G B1 Z I kb eb w (Kd.R_reads' h0).2.2 (Kd.R_reads' h0).2.1 (Kd.R_reads' h1).2.2 (Kd.R_reads' h1).2.1 (Kd.R_reads' h2).2.2 (Kd.R_reads' h2).2.1 (Kd.R_reads' J).2.2 (Kd.R_reads' J).2.1 hl.1 hl.2.1 hl.2.2.1 hl.2.2.2 ha hb).mono ?_
    rintro e w' ⟨x0,x1,rfl,y0,y1,hw⟩
    exact⟨x0,x1,rfl,Kd.R_lower y0 hB.size,Kd.R_lower y1 hB.size,hw⟩
   ·cases h
  ·rw[if_pos (by simpa using hb)]at h
   simp only[Option.some.injEq,Prod.mk.injEq]at h
   obtain⟨rfl,rfl,rfl,rfl⟩:=h
   subst ha
   refine(zd5 L M r U X D ka B0 Y G B1 Z I kb eb _ w hb).mono ?_
   rintro e w' ⟨rfl,hw⟩
   exact⟨_,_,rfl,Kd.R_below h2 hw,Kd.R_below J hw,hw⟩
 ·rw[if_pos (by simpa using ha)]at h
  simp only[Option.some.injEq,Prod.mk.injEq]at h
  obtain⟨rfl,rfl,rfl,rfl⟩:=h
  refine(zd4 L M r U X D ka ea B0 Y G B1 Z I kb eb _ w ha).mono ?_
  rintro e w' ⟨rfl,hw⟩
  exact⟨_,_,rfl,Kd.R_below h0 hw,Kd.R_below h1 hw,hw⟩
end Go.Proofs.Ytjknpmibdkoklaa.Q
namespace Go.Proofs.Ytjknpmibdkoklaa.Q
open Go.RowKit Go.Proofs.YtjknpmibdkoklaaW.PrintWords Go.Proofs.YtjknpmibdkoklaaW.PrintLast Go.Proofs.YtjknpmibdkoklaaW.PrintMore
open Aside0 (mk)
open List (setIfInBounds_toArray set_cons_zero set_cons_succ)
attribute [local go_sem] zbw zbz zbP zbQ zbm zbn zbA zbB
set_option linter.unusedVariables false
set_option linter.unusedSimpArgs false
attribute [local go_sem] zbS zbD zbE zbF
def zco.f (a0_0:Int) (a0_1:ByteArray) (a0_2:Int) (l0_3:List (S66)) (l0_4:List (S39)):Option (Int):=(zct.f a0_0 a0_1 a0_2 l0_3 l0_4).bind fun bt107=>(some bt107.2.2)
set_option maxHeartbeats 8000000 in
set_option maxRecDepth 100000 in
theorem zco.calls (I:Int) (a0_1:ByteArray) (a0_2:Int) (L:Option Addr) (M:Nat) (D:List (S66)) (U:Option Addr) (X:Nat) (G:List (S39)) (r:Int) (w:World) (Y:Kd.C k66 w L D.length D) (hc0_3:D.length≤M) (Z:Kd.C k39 w U G.length G) (hc0_4:G.length≤X) (h:zco.f I a0_1 a0_2 D G=some r) :
 Calls Try.prog 36 #[.agg #[.int .i64 I,.string a0_1,.int .i64 a0_2,.slice L D.length M,.slice U G.length X]] w fun e w'=>e= .returned (.int .i64 r)∧Below w.heap.size w w':=by
 have an:=Try.underlying39
 have ac:=mk Y
 have ae:=mk hc0_3
 clear Y hc0_3
 have af:=mk Z
 have ag:=mk hc0_4
 clear Z hc0_4
 have HB:=mk (Below.refl w.heap.size w)
 have H:((zct.f I a0_1 a0_2 D G).bind fun ah=>(some ah.2.2))=some r:=h
 clear h
 replace H:=Option.bind_eq_some_iff.mp H
 obtain⟨⟨aj,ak,ab⟩,al,H⟩:=H
 replace H:(some ab)=some r:=H
 have A2:=mk al
 clear al
 obtain rfl:=Option.some.inj H
 go_enter Try.func36,Try.ntmps36
 go_wp2_with (first|((with_reducible refine zao (N:=1) rfl ?_);refine zal ?hg (N:=1) ?hd (cs:=#[.int .i64 I,.string a0_1,.int .i64 a0_2,.slice L D.length M,.slice U G.length X]) (t:=39) ?hr ?_;(case hd=>rfl);(case hg=>rfl);(case hr=>exact kq21);intro am hg w3 hbox hb;have J:=mk (hbox);have ai:=(gs_ hg kq8);have aa:=ai;replace HB:=mk (zaa kq8 hb);clear hb hbox hg;obtain⟨_,_,_,_,_,_,_,_,_,_⟩:=cz5_ J.out)|((with_reducible refine zaE (f:=76) rfl ?_);refine za7 (some 4) rfl rfl Try.func76 kq0 rfl #[.agg #[.int .i64 I,.string a0_1,.int .i64 a0_2,.slice L D.length M,.slice U G.length X]] rfl kq10 ?_;(with_reducible refine(zct.calls I a0_1 a0_2 _ _ D _ _ G aj ak ab _ ?side1 ?side2 ?side3 ?side4 A2.out).mono ?_);(case side1=>exact kq25 ac);(case side2=>exact ae.out);(case side3=>exact kq25 af);(case side4=>exact ag.out);rintro e w5 ⟨rfl,hb⟩;refine⟨_,rfl,?_⟩;replace J:=(bb_ J hb);replace HB:=mk (zaa (kq20 aa) hb)))
 go_ret
 exact⟨kq18,(kq20 aa)⟩
end Go.Proofs.Ytjknpmibdkoklaa.Q
