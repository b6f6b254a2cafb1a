/- Functions of the given program as Lean functions, each with its contract, and what they answer; words for it. No condition but those of each. -/
import Derived.Test.YtjknpmibdkoklaaMNS
import Derived.Test.YtjknpmibdkoklaaMN14
import Derived.Test.YtjknpmibdkoklaaMN8
import Derived.LoopTactic
import Derived.Shelf.Abstract
import Derived.Deep.RegionHeld3
import Derived.Deep.RegionLaw
import Derived.Test.YtjknpmibdkoklaaMN3
set_option linter.unusedVariables false
set_option linter.unusedSimpArgs false
set_option maxRecDepth 100000
namespace Go.Proofs.Ytjknpmibdkoklaa.Q
open Go.RowKit Go.Proofs.YtjknpmibdkoklaaW.PrintWords Go.Proofs.YtjknpmibdkoklaaW.PrintLast Go.Proofs.YtjknpmibdkoklaaW.PrintMore
open Aside0 (mk)
def mulP (c n:Int):Int × Int:=(za8.f 3 c n).getD (0,0)
theorem zhL (c n:Int):za8.f 3 c n=some ((mulP c n).1,(mulP c n).2):=by
 have h:∃p,za8.f 3 c n=some p:=by
  have j0:∃p,za8.j0 3 c n true=some p:=⟨(0,0),by rw[za8.j0,if_pos rfl]⟩
  unfold za8.f
  by_cases hc:c=0
  ·rw[if_pos hc];exact j0
  ·rw[if_neg hc]
   by_cases hn:n=0
   ·rw[show(n==0)=true from beq_iff_eq.2 hn];exact j0
   ·rw[show(n==0)=false from beq_eq_false_iff_ne.2 hn]
    have j1:∀b,∃p,za8.j1 2 c n b=some p:=by
     intro b
     rw[za8.j1]
     split
     ·exact⟨_,rfl⟩
     ·first|(split<;>exact⟨_,rfl⟩)|(rw[if_neg hn];split<;>exact⟨_,rfl⟩)
    rw[za8.j0,if_neg kq2]
    split
    ·split
     ·exact j1 _
     ·split<;>exact j1 _
    ·split<;>exact j1 _
 obtain⟨p,hp⟩:=h
 unfold mulP
 rw[hp]
 rfl
def errM (n er:Int):List Int→Int
 | []=>er
 |c::l=>errM n (zbu er (mulP c n).2) l
theorem zhM (n:Int) (l:List Int) (er:Int) (i:Nat) (h:i<l.length):errM n er (l.take (i+1))=zbu (errM n er (l.take i)) (mulP l[i] n).2:=by
 induction l generalizing er i with
 |nil=>exact absurd h (Nat.not_lt_zero _)
 |cons c l ih=>
  cases i with
  |zero=>rfl
  |succ i=>exact ih (zbu er (mulP c n).2) i (by simpa using h)
def mulL (n:Int) (l:List Int):List Int:=l.map fun c=>(mulP c n).1
theorem zhN (n:Int) (l:List Int) (i:Nat) (h:i<l.length):mulL n (l.take (i+1))=mulL n (l.take i)++[(mulP l[i] n).1]:=by
 unfold mulL
 rw[List.take_succ_eq_append_getElem h,List.map_append]
 rfl
theorem zjQ {l:List Int} {i:Nat} (h:i<l.length):rd l (i:Int)=l[i]:=by unfold rd;rw[Int.toNat_natCast,List.getD_eq_getElem?_getD,List.getElem?_eq_getElem h];rfl
set_option maxHeartbeats 8000000 in
theorem zg6 (Y:Option Addr) (Z:Nat) (l0:List ByteArray) (A1:Option Addr) (c1:Nat) (f:List Int) (ko er n:Int) (w:World) (ab:Kd.C (Kd.int .i64) w A1 f.length f) (hc1:f.length≤c1) (hl:f.length≤1000000) :
 Calls Try.prog 164 #[.agg #[.slice Y l0.length Z,.slice A1 f.length c1,.int .i64 ko,.int .i64 er],.int .i64 n] w fun e w'=>∃v1:Value,e= .returned (.agg #[.slice Y l0.length Z,v1,.int .i64 (mulP ko n).1,.int .i64 (zbu (errM n 0 f) (mulP ko n).2)])∧Kd.R (Kd.int .i64) 2 w' w.heap.size (fun _=>True) v1 (mulL n f)∧Below w.heap.size w w':=by
 have ai:=Try.underlying107
 have aj:=mk ab
 have ar:=mk hc1
 have HLL:=mk hl
 have hlen1:=ab.2.1
 clear ab hc1 hl
 have HB:=mk (Below.refl w.heap.size w)
 go_enter Try.func164,Try.ntmps164
 go_wp2_with (first|((with_reducible refine zao (N:=2) rfl ?_);refine zal ?hg (N:=2) ?hd (cs:=#[.slice Y l0.length Z,.slice A1 f.length c1,.int .i64 ko,.int .i64 er]) (t:=107) ?hr ?_;(case hd=>rfl);(case hg=>rfl);(case hr=>exact kq21);intro g2 hg w2 hbox hb;have BKg2:=mk hbox;have GEg2:=mk (kq42:w.heap.size≤g2);replace HB:=mk (zaa kq43 hb);clear hb hbox hg;obtain⟨_,_,_,_,_,_,_,_⟩:=cz4_ BKg2.out)|((with_reducible refine zao (N:=4) rfl ?_);refine zal ?hg (N:=4) ?hd (cs:=#[.slice none 0 0,.slice none 0 0,.int .i64 0,.int .i64 0]) (t:=107) ?hr ?_;(case hd=>rfl);(case hg=>rfl);(case hr=>exact kq21);intro L hg w4 hbox hb;have BKg4:=mk hbox;have GEg4:=mk (kq42:w.heap.size≤L);have NBg2g4:=mk ((kq44 BKg2):g2≠L);have NBg4g2:=mk ((kq46 BKg2):L≠g2);have M:=mk (zai (kq45 BKg2) hb);have U:=mk (zaa kq43 hb);clear BKg2;have BKg2:=M;clear M;clear HB;have HB:=U;clear U;clear hb hbox hg;have ne_g2g4:=NBg2g4.out;have ne_g4g2:=NBg4g2.out;obtain⟨_,_,_,_,_,_,_,_⟩:=cz4_ BKg2.out;obtain⟨_,_,_,_,_,_,_,_⟩:=cz4_ BKg4.out)|((with_reducible refine zao (N:=5) rfl ?_);refine zal ?hg (N:=5) ?hd (cs:=#[.slice none 0 0,.slice none 0 0,.int .i64 0,.int .i64 0]) (t:=107) ?hr ?_;(case hd=>rfl);(case hg=>rfl);(case hr=>exact kq21);intro J hg w5 hbox hb;have BKg5:=mk hbox;have GEg5:=mk (kq42:w.heap.size≤J);have NBg2g5:=mk ((kq47 BKg2 NBg2g4):g2≠J);have NBg5g2:=mk ((kq49 BKg2 NBg2g4):J≠g2);have NBg4g5:=mk ((kq47 BKg4 NBg4g2):L≠J);have NBg5g4:=mk ((kq49 BKg4 NBg4g2):J≠L);have M:=mk (zai (kq48 BKg2 NBg2g4) hb);have U:=mk (zai (kq48 BKg4 NBg4g2) hb);have ae:=mk (zaa kq43 hb);clear BKg2;have BKg2:=M;clear M;clear BKg4;have BKg4:=U;clear U;clear HB;have HB:=ae;clear ae;clear hb hbox hg;have ne_g2g5:=NBg2g5.out;have ne_g5g2:=NBg5g2.out;have ne_g4g5:=NBg4g5.out;have ne_g5g4:=NBg5g4.out;obtain⟨_,_,_,_,_,_,_,_⟩:=cz4_ BKg2.out;obtain⟨_,_,_,_,_,_,_,_⟩:=cz4_ BKg4.out;obtain⟨_,_,_,_,_,_,_,_⟩:=cz4_ BKg5.out))
 go_loopg [14] f.length (fun gq ak wr=>∃(i:Nat) (vc:Value),ak= .int .i64 i∧Aside0 (i≤f.length)∧Aside0 (f.length-i≤gq)∧Aside0 (wr.heap[J]?=some (.cells #[.slice Y l0.length Z,vc,.int .i64 0,.int .i64 (errM n 0 (f.take i))] 107 (0,0)))∧Aside0 (Kd.R (Kd.int .i64) 2 wr w.heap.size (fun _=>True) vc (mulL n (f.take i)))∧Aside0 (wr.heap[g2]?=some (.cells #[.slice Y l0.length Z,.slice A1 f.length c1,.int .i64 ko,.int .i64 er] 107 (0,0)))∧Aside0 (wr.heap[L]?=some (.cells #[.slice none 0 0,.slice none 0 0,.int .i64 0,.int .i64 0] 107 (0,0)))∧Aside0 (Below w.heap.size w wr))
 case atStart=>exact⟨0,.slice none 0 0,rfl,⟨Nat.zero_le _⟩,⟨kq1⟩,⟨zak (zak (zak (zak BKg5.out 0 _ rfl) 1 _ rfl) 2 _ rfl) 3 _ rfl⟩,⟨by first|exact Kd.R_nil _ _ _ _ _|(rw[List.take_zero];exact Kd.R_nil _ _ _ _ _)⟩,⟨(kq48 BKg2 NBg2g5)⟩,⟨(kq48 BKg4 NBg4g5)⟩,⟨(kq53 GEg5)⟩⟩
 case round=>
  clear BKg5 BKg2 BKg4 HB
  obtain⟨i,vc,rfl,HI,HQ,BKg5,HRc,BKg2,BKg4,HB⟩:=hrel
  by_cases hi:i<f.length
  ·have hiz:(i:Int)<(f.length:Int):=by omega
   have al:(0:Int)≤(i:Int):=by omega
   obtain⟨ad,ead,hx⟩:=Kd.at_int aj.out (i:Int) al hiz
   cases ead
   rw[Int.toNat_natCast,zjQ hi]at hx
   replace hx:=(HB.out.cell (World.block_lt_of_cell? _ _ hx)).trans hx
   have HE:=mk (zhM n f 0 i hi)
   have HM:=mk (zhN n f i hi)
   have hlt:(mulL n (f.take i)).length≤1000000:=by have:=HLL.out;unfold mulL;rw[List.length_map,List.length_take];omega
   have HLT:=mk hlt
   clear hlt
   generalize f[i]=c at hx HE HM
   obtain⟨_,_,_,_,_,_,_,_⟩:=cz4_ BKg5.out
   go_wp2
   go_region_law (first|((refine zbj (N:=some 22) Try.func187 kq0 rfl #[.int .i64 c,.int .i64 n] (by rfl) rfl rfl kq54 ?_;refine(za8.calls 3 c n _ _ _ (zhL c n)).mono ?_;rintro e w6 ⟨rfl,hd⟩;obtain⟨nd,rfl⟩:=hd.out;clear hd;refine⟨_,rfl,?_⟩))|((refine zbj (N:=some 25) Try.func84 kq0 rfl #[.pointer (some ⟨J,0,none⟩),.int .i64 (mulP c n).1,.int .i64 (mulP c n).2] (by rfl) rfl rfl kq54 ?_;refine(zbZ J (.slice Y l0.length Z) vc 0 (errM n 0 (f.take i)) (mulP c n).1 (mulP c n).2 w _ GEg5.out ?s1 ?s2).mono ?_;(case s1=>exact(kq53 GEg5));(case s2=>exact kq59 BKg5);rintro e w7 ⟨rfl,hg,hk,hb⟩;refine⟨_,rfl,?_⟩;have X:=mk (Kd.R_mono (Kd.R_keep (Kd.R_types (kq67 HRc) (kq45 BKg5) kq2) hk (fun _ h=>h.2)) (fun _ h=>h.1));have r:=mk (hk.blk (kq45 BKg2) ne_g2g5 (by simp));have D:=mk (hk.blk (kq45 BKg4) ne_g4g5 (by simp));have G:=mk hg;have I:=mk hb;clear hg hk hb HRc BKg2 BKg4 BKg5 HB;have HRc:=X;have BKg2:=r;have BKg4:=D;have BKg5:=G;have HB:=I;clear X r D G I;have af:w7.cell? ⟨J,1,none⟩=some vc:=bk_ BKg5 1;have am:=zaD BKg5.out 1;have ag:=World.new_ne w7 _ af;have an:∀o,(w7.alloc o).cell? ⟨J,1,none⟩=some vc:=fun o=>(za1 (zab BKg5.out o) 1).trans rfl;have ao:=Ne.symm ag))|((refine Kd.R_append_step (Kd.int .i64) (w0:=w) w.heap.size (by rfl) (.tmp 19) (.tmp 26) 55 2 (.int .i64 0) 8 (by rfl) Try.underlying55 zgq rfl kq2 kq2 vc (mulL n (f.take i)) (mulP c n).1 [.int .i64 (mulP c n).1] (fun _=>True) (fun _=>False) (by rfl) (by rfl) rfl (fun _ hk=>hk.elim) (fun _ _=>trivial) (kq67 HRc) kq43 (zad kq43) (by have:=HLT.out;omega) ?_);intro v8 w8 ac hb8 hg8 hat8;obtain⟨A8,c8,ev8⟩:=Kd.R_slice ac;subst ev8;have r:=mk (zaJ (kq45 BKg2) hg8 (Kd.R_ne (kq67 HRc) (kq45 BKg2) kq2));have D:=mk (zaJ (kq45 BKg4) hg8 (Kd.R_ne (kq67 HRc) (kq45 BKg4) kq2));have G:=mk (zaJ (kq45 BKg5) hg8 (Kd.R_ne (kq67 HRc) (kq45 BKg5) kq2));have I:=mk hb8;have ah:=mk ac;clear ac hb8 hg8 hat8 HRc BKg2 BKg4 BKg5 HB;have HRc:=ah;have BKg2:=r;have BKg4:=D;have BKg5:=G;have HB:=I;clear r D G I ah;have ap:w8.cell? ⟨J,1,none⟩=some vc:=bk_ BKg5 1;have aq:=zaD BKg5.out 1))
   all_goals
    go_wp2
    go_roundg (f.length-(i+1))
    case measure=>have:=HQ.out;omega
    case rel=>
     have aa:=HRc.out
     rw[List.length_append,List.length_singleton,←HM.out]at aa
     exact⟨i+1,.slice A8 ((mulL n (f.take i)).length+1) c8,(kq64 HLL),⟨kq1⟩,⟨kq1⟩,⟨by rw[HE.out];exact zak BKg5.out 1 _ rfl⟩,⟨Kd.R_set aa BKg5.out kq2 1 _⟩,⟨zaj BKg2.out ne_g2g5 _⟩,⟨zaj BKg4.out ne_g4g5 _⟩,⟨zav HB.out GEg5.out⟩⟩
  ·have hiz:¬(i:Int)<(f.length:Int):=by omega
   have hil:i=f.length:=by have:=HI.out;omega
   have HX:=mk (show errM n 0 (f.take i)=errM n 0 f by rw[hil,List.take_length])
   have HY:=mk (show mulL n (f.take i)=mulL n f by rw[hil,List.take_length])
   clear hil hi
   obtain⟨Av,cv,ev⟩:=Kd.R_slice HRc.out
   subst ev
   have kz1:wr.cell? ⟨g2,2,none⟩=some (.int .i64 ko):=bk_ BKg2 2
   obtain⟨_,_,_,_,_,_,_,_⟩:=cz4_ BKg5.out
   obtain⟨_,_,_,_,_,_,_,_⟩:=cz4_ BKg4.out
   go_wp2_with (first|((go_at_call 187;(with_reducible refine(za8.calls 3 ko n _ _ _ (zhL ko n)).mono ?_);rintro e w6 ⟨rfl,hd⟩;obtain⟨nd,rfl⟩:=hd.out;clear hd))|((go_at_call 84;(with_reducible refine(zbZ J (.slice Y l0.length Z) (.slice Av (mulL n (f.take i)).length cv) 0 (errM n 0 (f.take i)) (mulP ko n).1 (mulP ko n).2 w _ GEg5.out ?s1 ?s2).mono ?_);(case s1=>exact kq58);(case s2=>exact kq59 BKg5);rintro e w7 ⟨rfl,hg,hk,hb⟩;have X:=mk (Kd.R_mono (Kd.R_keep (Kd.R_types (kq67 HRc) (kq45 BKg5) kq2) hk (fun _ h=>h.2)) (fun _ h=>h.1));have r:=mk (hk.blk (kq45 BKg2) ne_g2g5 (by simp));have D:=mk (hk.blk (kq45 BKg4) ne_g4g5 (by simp));have G:=mk hg;have I:=mk hb;clear hg hk hb HRc BKg2 BKg4 BKg5 HB;have HRc:=X;have BKg2:=r;have BKg4:=D;have BKg5:=G;have HB:=I;clear X r D G I;obtain⟨_,_,_,_,_,_,_,_⟩:=cz4_ BKg5.out;obtain⟨_,_,_,_,_,_,_,_⟩:=cz4_ BKg4.out)))
   refine bodyPost_ret (results_cell_row rfl _ _ L 107 #[.slice Y l0.length Z,.slice Av (mulL n (f.take i)).length cv,.int .i64 (mulP ko n).1,.int .i64 (zbu (errM n 0 (f.take i)) (mulP ko n).2)] (0,0) _ rfl (zak (zak (zak (zak (zaj BKg4.out ne_g4g5 _) 0 _ rfl) 1 _ rfl) 2 _ rfl) 3 _ rfl) Try.underlying107 rfl kq0) rfl ?_
   have aa:=Kd.R_types (Kd.R_types HRc.out BKg5.out kq2) BKg4.out kq2
   have r1:=Kd.R_far (p:=⟨J,2,none⟩) aa (fun _ h=>h.1.2) (.int .i64 (mulP ko n).1)
   have r2:=Kd.R_far (p:=⟨L,0,none⟩) r1 (fun _ h=>h.2) (.slice Y l0.length Z)
   have r3:=Kd.R_far (p:=⟨L,1,none⟩) r2 (fun _ h=>h.2) (.slice Av (mulL n (f.take i)).length cv)
   have r4:=Kd.R_far (p:=⟨L,2,none⟩) r3 (fun _ h=>h.2) (.int .i64 (mulP ko n).1)
   have r5:=Kd.R_far (p:=⟨L,3,none⟩) r4 (fun _ h=>h.2) (.int .i64 (zbu (errM n 0 (f.take i)) (mulP ko n).2))
   exact⟨.slice Av (mulL n (f.take i)).length cv,by rw[←HX.out],by rw[←HY.out];exact Kd.R_mono r5 (fun _ _=>trivial),(kq63 GEg4 GEg5)⟩
def zb6.f (l0:List ByteArray) (l1:List Int) (ko er n:Int):Option (List ByteArray × List Int × Int × Int):=if l1.length≤1000000 then some (l0,mulL n l1,(mulP ko n).1,zbu (errM n 0 l1) (mulP ko n).2)else none
theorem zb6.calls (P0_0_:Nat→Prop) (r:Value) (l0_0:List ByteArray) (D:Option Addr) (G:Nat) (l0_1:List Int) (a0_2 a0_3 M:Int) (U:List ByteArray) (X:List Int) (Y Z:Int) (w0 w:World) (hB:Below w0.heap.size w0 w) (ho0_0:Kd.R Kd.string 9 w w0.heap.size P0_0_ r l0_0) (I:∀W_,Kept w W_ (fun k_=>P0_0_ k_)→Kd.C (Kd.int .i64) W_ D l0_1.length l0_1) (hc0_1:l0_1.length≤G) (h:zb6.f l0_0 l0_1 a0_2 a0_3 M=some (U,X,Y,Z)) :
 Calls Try.prog 164 #[.agg #[r,.slice D l0_1.length G,.int .i64 a0_2,.int .i64 a0_3],.int .i64 M] w fun e w'=>∃J L:Value,e= .returned (.agg #[J,L,.int .i64 Y,.int .i64 Z])∧Kd.R Kd.string 9 w' w0.heap.size (fun k_=>(P0_0_ k_∨w.heap.size≤k_)) J U∧Kd.R (Kd.int .i64) 2 w' w0.heap.size (fun k_=>(P0_0_ k_∨w.heap.size≤k_)) L X∧Below w0.heap.size w0 w'∧Kept w w' (fun k_=>P0_0_ k_):=by
 obtain⟨A0,c0,rfl⟩:=Kd.R_slice ho0_0
 unfold zb6.f at h
 by_cases hl:l0_1.length≤1000000
 ·rw[if_pos hl]at h
  simp only[Option.some.injEq,Prod.mk.injEq]at h
  obtain⟨rfl,rfl,rfl,rfl⟩:=h
  refine(zg6 A0 c0 l0_0 D G l0_1 a0_2 a0_3 M w (I w ⟨Nat.le_refl _,fun _ _ _=>rfl⟩) hc0_1 hl).mono ?_
  rintro e w' ⟨v1,rfl,h1,hw⟩
  exact⟨_,v1,rfl,Kd.R_mono (Kd.R_below ho0_0 hw) (fun k hk=>.inl hk),Kd.R_lower (Kd.R_mono (Kd.R_bound h1) (fun k hk=>.inr hk.2.1)) hB.size,zaa hB hw,hw.size,fun i hi _=>hw.block i hi⟩
 ·rw[if_neg hl]at h
  cases h
end Go.Proofs.Ytjknpmibdkoklaa.Q
namespace Go.Proofs.Ytjknpmibdkoklaa.Q
open Go.RowKit Go.Proofs.YtjknpmibdkoklaaW.PrintWords Go.Proofs.YtjknpmibdkoklaaW.PrintLast Go.Proofs.YtjknpmibdkoklaaW.PrintMore
open Aside0 (mk)
open List (setIfInBounds_toArray set_cons_zero set_cons_succ)
attribute [local go_sem] zbw zbz zbP zbQ zbm zbn zbA zbB
set_option linter.unusedVariables false
set_option linter.unusedSimpArgs false
attribute [local go_sem] zbS zbD zbE zbF
def zaW.j0:Nat→Bool→List ByteArray→List Int→Int→Int→List ByteArray→List Int→Int→Int→Option (List ByteArray × List Int × Int × Int)
 |0,_,_,_,_,_,_,_,_,_=>none
 |k+1,x15,x673000,x673001,x673002,x673003,x674000,x674001,x674002,x674003=>if x15=true then(some (([]:List ByteArray),([]:List Int),0,90))else(if(x673000.length:Int)>0 then((zb6.f x673000 x673001 x673002 x673003 x674002).bind fun bt675=>(some (bt675.1,bt675.2.1,bt675.2.2.1,bt675.2.2.2)))else((zb6.f x674000 x674001 x674002 x674003 x673002).bind fun bt683=>(some (bt683.1,bt683.2.1,bt683.2.2.1,bt683.2.2.2))))
def zaW.f (k:Nat) (l0_0:List ByteArray) (l0_1:List Int) (a0_2 a0_3:Int) (l1_0:List ByteArray) (l1_1:List Int) (a1_2 a1_3:Int):Option (List ByteArray × List Int × Int × Int):=if a0_3=0 then(if a1_3=0 then(if(l0_0.length:Int)>0 then(zaW.j0 k (decide ((l1_0.length:Int)>0)) l0_0 l0_1 a0_2 a0_3 l1_0 l1_1 a1_2 a1_3)else(zaW.j0 k false l0_0 l0_1 a0_2 a0_3 l1_0 l1_1 a1_2 a1_3))else(some (l1_0,l1_1,a1_2,a1_3)))else(some (l0_0,l0_1,a0_2,a0_3))
theorem zaW.mono_l:∀k,(∀f D G I J L M U X,LeO (zaW.j0 k f D G I J L M U X) (zaW.j0 (k+1) f D G I J L M U X))
 |0=>fun _ _ _ _ _ _ _ _ _ r h=>by simp [zaW.j0]at h
 |k+1=>by
  have ih0:=zaW.mono_l k
  ·intro f D G I J L M U X;unfold zaW.j0
   repeat' first
   |(with_reducible exact ih0 _ _ _ _ _ _ _ _ _)
   |(with_reducible exact LeO.refl _)
   |(with_reducible exact LeO.none _)
   |(with_reducible refine LeO.ite ?_ ?_)
   |(with_reducible refine LeO.bind ?_ (fun _=>?_))
   |exact ih0 _ _ _ _ _ _ _ _ _
   |exact LeO.none _
   |refine LeO.ite ?_ ?_
   |refine LeO.bind ?_ (fun _=>?_)
theorem zaW.mono:∀a0 r D a3 a4 a5 G I k,LeO (zaW.f k a0 r D a3 a4 a5 G I) (zaW.f (k+1) a0 r D a3 a4 a5 G I):=by
 intro a0 r D a3 a4 a5 G I k
 have ih0:=zaW.mono_l k
 unfold zaW.f
 repeat' first
  |(with_reducible exact ih0 _ _ _ _ _ _ _ _ _)
  |(with_reducible exact LeO.refl _)
  |(with_reducible exact LeO.none _)
  |(with_reducible refine LeO.ite ?_ ?_)
  |(with_reducible refine LeO.bind ?_ (fun _=>?_))
  |exact ih0 _ _ _ _ _ _ _ _ _
  |exact LeO.none _
  |refine LeO.ite ?_ ?_
  |refine LeO.bind ?_ (fun _=>?_)
set_option maxHeartbeats 8000000 in
set_option maxRecDepth 100000 in
theorem zaW.calls (k:Nat) (P0_0_:Nat→Prop) (ar:Value) (l0_0:List ByteArray) (P0_1_:Nat→Prop) (au:Value) (l0_1:List Int) (a0_2 a0_3:Int) (P1_0_:Nat→Prop) (av:Value) (l1_0:List ByteArray) (P1_1_:Nat→Prop) (aw:Value) (l1_1:List Int) (a1_2 a1_3:Int) (r1:List ByteArray) (r2:List Int) (r3 r4:Int) (w0 w:World) (hB:Below w0.heap.size w0 w) (ho0_0:Kd.R Kd.string 9 w w0.heap.size P0_0_ ar l0_0) (hp0_0_1_0:∀k_,P0_0_ k_→¬P1_0_ k_) (ho0_1:Kd.R (Kd.int .i64) 2 w w0.heap.size P0_1_ au l0_1) (hp0_1_1_1:∀k_,P0_1_ k_→¬P1_1_ k_) (ho1_0:Kd.R Kd.string 9 w w0.heap.size P1_0_ av l1_0) (hp1_0_0_0:∀k_,P1_0_ k_→¬P0_0_ k_) (ho1_1:Kd.R (Kd.int .i64) 2 w w0.heap.size P1_1_ aw l1_1) (hp1_1_0_1:∀k_,P1_1_ k_→¬P0_1_ k_) (h:zaW.f k l0_0 l0_1 a0_2 a0_3 l1_0 l1_1 a1_2 a1_3=some (r1,r2,r3,r4)) :
 Calls Try.prog 122 #[.agg #[ar,au,.int .i64 a0_2,.int .i64 a0_3],.agg #[av,aw,.int .i64 a1_2,.int .i64 a1_3]] w fun e w'=>∃b7 b8:Value,e= .returned (.agg #[b7,b8,.int .i64 r3,.int .i64 r4])∧Kd.R Kd.string 9 w' w0.heap.size (fun k_=>((P0_0_ k_∨P0_1_ k_∨P1_0_ k_∨P1_1_ k_)∨w.heap.size≤k_)) b7 r1∧Kd.R (Kd.int .i64) 2 w' w0.heap.size (fun k_=>((P0_0_ k_∨P0_1_ k_∨P1_0_ k_∨P1_1_ k_)∨w.heap.size≤k_)) b8 r2∧Below w0.heap.size w0 w'∧Kept w w' (fun k_=>P0_0_ k_∨P0_1_ k_∨P1_0_ k_∨P1_1_ k_):=by
 have bE:=Try.underlying107
 have M:=mk (show Kd.R Kd.string 9 w w0.heap.size (fun k_=>((P0_0_ k_∨P0_1_ k_∨P1_0_ k_∨P1_1_ k_)∨w.heap.size≤k_)∧some k_≠(av:Value).ownBlock) ar l0_0 from Kd.R_mono ho0_0 (fun k_ hk=>⟨(.inl (.inl hk)),fun e_=>hp0_0_1_0 k_ hk (ho1_0.1 k_ e_.symm)⟩))
 have U:=mk (show Kd.R (Kd.int .i64) 2 w w0.heap.size (fun k_=>((P0_0_ k_∨P0_1_ k_∨P1_0_ k_∨P1_1_ k_)∨w.heap.size≤k_)∧some k_≠(aw:Value).ownBlock) au l0_1 from Kd.R_mono ho0_1 (fun k_ hk=>⟨(.inl (.inr (.inl hk))),fun e_=>hp0_1_1_1 k_ hk (ho1_1.1 k_ e_.symm)⟩))
 have X:=mk (show Kd.R Kd.string 9 w w0.heap.size (fun k_=>((P0_0_ k_∨P0_1_ k_∨P1_0_ k_∨P1_1_ k_)∨w.heap.size≤k_)∧some k_≠(ar:Value).ownBlock) av l1_0 from Kd.R_mono ho1_0 (fun k_ hk=>⟨(.inl (.inr (.inr (.inl hk)))),fun e_=>hp1_0_0_0 k_ hk (ho0_0.1 k_ e_.symm)⟩))
 have Y:=mk (show Kd.R (Kd.int .i64) 2 w w0.heap.size (fun k_=>((P0_0_ k_∨P0_1_ k_∨P1_0_ k_∨P1_1_ k_)∨w.heap.size≤k_)∧some k_≠(au:Value).ownBlock) aw l1_1 from Kd.R_mono ho1_1 (fun k_ hk=>⟨(.inl (.inr (.inr (.inr hk)))),fun e_=>hp1_1_0_1 k_ hk (ho0_1.1 k_ e_.symm)⟩))
 have HK:=mk (Kept.refl w (fun k_=>P0_0_ k_∨P0_1_ k_∨P1_0_ k_∨P1_1_ k_))
 have HW0:=mk hB.size
 have HB:=mk hB
 clear hB
 have H:(if a0_3=0 then(if a1_3=0 then(if(l0_0.length:Int)>0 then(zaW.j0 k (decide ((l1_0.length:Int)>0)) l0_0 l0_1 a0_2 a0_3 l1_0 l1_1 a1_2 a1_3)else(zaW.j0 k false l0_0 l0_1 a0_2 a0_3 l1_0 l1_1 a1_2 a1_3))else(some (l1_0,l1_1,a1_2,a1_3)))else(some (l0_0,l0_1,a0_2,a0_3)))=some (r1,r2,r3,r4):=h
 clear h
 by_cases c3:a0_3=0
 ·rw[if_pos c3]at H
  have b9:=eT_ c3
  have ba:=nF_ c3
  clear c3
  replace H:=ic_ H;obtain⟨c4,H⟩|⟨c4,H⟩:=H
  ·obtain⟨bb,bc⟩:=eTn_ c4;clear c4;have aZ:=mk H;clear H;obtain⟨aE,aG,bF⟩:=Kd.R_slice M.out;subst bF;obtain⟨ay,az,bG⟩:=Kd.R_slice U.out;subst bG;(go_enter Try.func122,Try.ntmps122);(go_upto_region 5 with(first|((with_reducible refine zao (N:=2) rfl ?_);(try(refine zbf (by rfl) ?_;dsimp only));refine zal ?hg (N:=2) ?hd (cs:=#[.slice aE l0_0.length aG,.slice ay l0_1.length az,.int .i64 a0_2,.int .i64 a0_3]) (t:=107) ?hr ?_;(case hd=>rfl);(case hg=>rfl);(case hr=>exact kq21);intro ap hg w8 hbox hb;have r:=mk (hbox);have L:=mk ((by rw[hg];exact kq68:w.heap.size≤ap));have Z:=(gs_ hg kq8);replace M:=mk (Kd.R_below (kq9 M) hb);replace U:=mk (Kd.R_below (kq9 U) hb);replace X:=mk (Kd.R_below (kq9 X) hb);replace Y:=mk (Kd.R_below (kq9 Y) hb);replace HK:=mk (Kept.below (S:=(fun k_=>P0_0_ k_∨P0_1_ k_∨P1_0_ k_∨P1_1_ k_)) kq69 hb);replace HB:=mk (zaa kq8 hb);clear hb hbox hg;obtain⟨aH,aI,bH⟩:=Kd.R_slice X.out;subst bH;obtain⟨an,ao,bd⟩:=Kd.R_slice Y.out;subst bd)|((with_reducible refine zao (N:=3) rfl ?_);(try(refine zbf (by rfl) ?_;dsimp only));refine zal ?hg (N:=3) ?hd (cs:=#[.slice aH l1_0.length aI,.slice an l1_1.length ao,.int .i64 a1_2,.int .i64 a1_3]) (t:=107) ?hr ?_;(case hd=>rfl);(case hg=>rfl);(case hr=>exact kq21);intro aq hg cL hbox hb;have J:=mk (hbox);have aa:=mk ((by rw[hg];exact(kq70 L):w.heap.size≤aq));have ak:=(gs_ hg (kq20 Z));have ag:=(nl_ hg r);have ah:=(ng_ hg r);replace M:=mk (Kd.R_below (kq9 M) hb);replace U:=mk (Kd.R_below (kq9 U) hb);replace X:=mk (Kd.R_below (kq9 X) hb);replace Y:=mk (Kd.R_below (kq9 Y) hb);replace r:=(bb_ r hb);replace HK:=mk (Kept.below (S:=(fun k_=>P0_0_ k_∨P0_1_ k_∨P1_0_ k_∨P1_1_ k_)) (kq71 L) hb);replace HB:=mk (zaa (kq20 Z) hb);clear hb hbox hg)|((with_reducible refine zao (N:=4) rfl ?_);(try(refine zbf (by rfl) ?_;dsimp only));refine zal ?hg (N:=4) ?hd (cs:=#[.slice none 0 0,.slice none 0 0,.int .i64 0,.int .i64 0]) (t:=107) ?hr ?_;(case hd=>rfl);(case hg=>rfl);(case hr=>exact kq21);intro gb674 hg cM hbox hb;have I:=mk (hbox);have al:=mk ((by rw[hg];exact(kq72 L aa):w.heap.size≤gb674));have am:=(gs_ hg (kq31 Z ak));have ab:=(nl_ hg r);have ac:=(ng_ hg r);have ai:=(nl_ hg J);have aj:=(ng_ hg J);replace M:=mk (Kd.R_below (kq9 M) hb);replace U:=mk (Kd.R_below (kq9 U) hb);replace X:=mk (Kd.R_below (kq9 X) hb);replace Y:=mk (Kd.R_below (kq9 Y) hb);replace r:=(bb_ r hb);replace J:=(bb_ J hb);replace HK:=mk (Kept.below (S:=(fun k_=>P0_0_ k_∨P0_1_ k_∨P1_0_ k_∨P1_1_ k_)) (kq73 L aa) hb);replace HB:=mk (zaa (kq31 Z ak) hb);clear hb hbox hg;have bI:=ag.out;have bJ:=ah.out;have bK:=ab.out;have bL:=ac.out;obtain⟨_,_,_,_,_,_,_,_⟩:=cz4_ r.out;have bM:=ai.out;have bN:=aj.out;obtain⟨_,_,_,_,_,_,_,_⟩:=cz4_ J.out)));((try simp only[Act.put,setIfInBounds_toArray,set_cons_zero,set_cons_succ]));(go_cut [15] (fun bO wc=>∃(kq:Nat) (aA:Bool),bO= .bool aA∧Aside0 (zaW.j0 kq aA l0_0 l0_1 a0_2 a0_3 l1_0 l1_1 a1_2 a1_3=some (r1,r2,r3,r4))∧Aside0 (kq≤k)∧Aside0 (Kd.R Kd.string 9 wc w0.heap.size (fun k_=>((P0_0_ k_∨P0_1_ k_∨P1_0_ k_∨P1_1_ k_)∨w.heap.size≤k_)∧some k_≠((.slice aH l1_0.length aI):Value).ownBlock) (.slice aE l0_0.length aG) l0_0)∧Aside0 (Kd.R (Kd.int .i64) 2 wc w0.heap.size (fun k_=>((P0_0_ k_∨P0_1_ k_∨P1_0_ k_∨P1_1_ k_)∨w.heap.size≤k_)∧some k_≠((.slice an l1_1.length ao):Value).ownBlock) (.slice ay l0_1.length az) l0_1)∧Aside0 (Kd.R Kd.string 9 wc w0.heap.size (fun k_=>((P0_0_ k_∨P0_1_ k_∨P1_0_ k_∨P1_1_ k_)∨w.heap.size≤k_)∧some k_≠((.slice aE l0_0.length aG):Value).ownBlock) (.slice aH l1_0.length aI) l1_0)∧Aside0 (Kd.R (Kd.int .i64) 2 wc w0.heap.size (fun k_=>((P0_0_ k_∨P0_1_ k_∨P1_0_ k_∨P1_1_ k_)∨w.heap.size≤k_)∧some k_≠((.slice ay l0_1.length az):Value).ownBlock) (.slice an l1_1.length ao) l1_1)∧Aside0 (wc.heap[ap]?=some (.cells #[(.slice aE l0_0.length aG),(.slice ay l0_1.length az),.int .i64 a0_2,.int .i64 a0_3] 107 (0,0)))∧Aside0 (wc.heap[aq]?=some (.cells #[(.slice aH l1_0.length aI),(.slice an l1_1.length ao),.int .i64 a1_2,.int .i64 a1_3] 107 (0,0)))∧Aside0 (wc.heap[gb674]?=some (.cells #[(.slice none 0 0),(.slice none 0 0),.int .i64 0,.int .i64 0] 107 (0,0)))∧Aside0 (Kept w wc (fun k_=>P0_0_ k_∨P0_1_ k_∨P1_0_ k_∨P1_1_ k_))∧Aside0 (Below w0.heap.size w0 wc)))
   case first=>
    have H:=aZ.out;clear aZ;replace H:=ic_ H;obtain⟨aJ,H⟩|⟨aJ,H⟩:=H
    ·have ax:decide (0<(l0_0.length:Int))=true:=decide_eq_true aJ;have b4:decide (0<l0_0.length)=true:=decide_eq_true kq1;clear aJ;((first|rw[ax]|(simp only[zbi,zbq];rw[ax])|skip));have H':=mk H;clear H;have bP:=ag.out;have bQ:=ah.out;have bR:=ab.out;have bS:=ac.out;obtain⟨_,_,_,_,_,_,_,_⟩:=cz4_ r.out;have bT:=ai.out;have bU:=aj.out;obtain⟨_,_,_,_,_,_,_,_⟩:=cz4_ J.out;go_wp2;(go_meet)
     case rel=>exact⟨_,(decide ((l1_0.length:Int)>0)),kq3,H',⟨kq4⟩,⟨(kq9 M)⟩,⟨(kq9 U)⟩,⟨(kq9 X)⟩,⟨(kq9 Y)⟩,⟨(kq22 r)⟩,⟨(kq22 J)⟩,⟨(kq22 I)⟩,⟨(kq76 L aa al)⟩,⟨(kq36 Z ak am)⟩⟩
    ·have ax:decide (0<(l0_0.length:Int))=false:=decide_eq_false aJ;have b4:decide (0<l0_0.length)=false:=decide_eq_false kq1;clear aJ;((first|rw[ax]|(simp only[zbi,zbq];rw[ax])|skip));have H':=mk H;clear H;have bV:=ag.out;have bW:=ah.out;have bX:=ab.out;have bY:=ac.out;obtain⟨_,_,_,_,_,_,_,_⟩:=cz4_ r.out;go_wp2;(go_meet)
     case rel=>exact⟨_,(false),kq3,H',⟨kq4⟩,⟨(kq9 M)⟩,⟨(kq9 U)⟩,⟨(kq9 X)⟩,⟨(kq9 Y)⟩,⟨(kq22 r)⟩,⟨(kq22 J)⟩,⟨(kq22 I)⟩,⟨(kq76 L aa al)⟩,⟨(kq36 Z ak am)⟩⟩
   case rest=>
    clear aZ;obtain⟨kq,aA,rfl,HA,cN,D,ae,G,af,r,J,I,HK,HB⟩:=hcut
    cases kq with
    |zero=>exact absurd HA.out (by simp [zaW.j0])
    |succ cO=>
     have H:=HA.out;clear HA;simp only[zaW.j0]at H;(by_cases aU:aA=true)
     ·subst aU;(have H1:(some (([]:List ByteArray),([]:List Int),0,90))=some (r1,r2,r3,r4):=by rw[if_pos rfl]at H;exact H);clear H;have H:=H1;clear H1;simp only[Option.some.injEq,Prod.mk.injEq]at H;obtain⟨rfl,rfl,rfl,rfl⟩:=H;have bZ:=ac.out;have cd:=ab.out;have ce:=aj.out;have cg:=ai.out;obtain⟨_,_,_,_,_,_,_,_⟩:=cz4_ I.out;go_wp2;refine bodyPost_ret (results_cell_row rfl _ _ gb674 107 #[.slice none 0 0,.slice none 0 0,.int .i64 0,.int .i64 90] (0,0) _ rfl (kq74 I) Try.underlying107 rfl kq0) rfl ?_;exact⟨_,_,kq18,kq16,kq16,(kq36 Z ak am),(kq76 L aa al)⟩
     ·replace aU:=Bool.eq_false_iff.mpr aU;subst aU;(have H1:(if(l0_0.length:Int)>0 then((zb6.f l0_0 l0_1 a0_2 a0_3 a1_2).bind fun aC=>(some (aC.1,aC.2.1,aC.2.2.1,aC.2.2.2)))else((zb6.f l1_0 l1_1 a1_2 a1_3 a0_2).bind fun aD=>(some (aD.1,aD.2.1,aD.2.2.1,aD.2.2.2))))=some (r1,r2,r3,r4):=by rw[if_neg (show ¬(false=true) by decide)]at H;exact H);clear H;have H:=H1;clear H1;replace H:=ic_ H;obtain⟨aK,H⟩|⟨aK,H⟩:=H
      ·have b5:decide (0<(l0_0.length:Int))=true:=decide_eq_true aK;have b6:decide (0<l0_0.length)=true:=decide_eq_true kq1;clear aK;replace H:=Option.bind_eq_some_iff.mp H;obtain⟨⟨t675,t678,t681,t682⟩,aV,H⟩:=H;replace H:(some (t675,t678,t681,t682))=some (r1,r2,r3,r4):=H;have ch:=mk aV;clear aV;simp only[Option.some.injEq,Prod.mk.injEq]at H;obtain⟨rfl,rfl,rfl,rfl⟩:=H;have ci:=ag.out;have cj:=ah.out;have ck:=ab.out;have cm:=ac.out;obtain⟨_,_,_,_,_,_,_,_⟩:=cz4_ r.out;have co:=ai.out;have cp:=aj.out;obtain⟨_,_,_,_,_,_,_,_⟩:=cz4_ J.out;(go_wp2_with (first|((with_reducible refine zaE (f:=164) rfl ?_);refine za7 (some 35) rfl rfl Try.func164 kq0 rfl #[.agg #[.slice aE l0_0.length aG,.slice ay l0_1.length az,.int .i64 a0_2,.int .i64 a0_3],.int .i64 a1_2] rfl kq10 ?_;(with_reducible refine(zb6.calls (fun k_=>some k_=(.slice aE l0_0.length aG:Value).ownBlock) (.slice aE l0_0.length aG) l0_0 _ _ l0_1 a0_2 a0_3 a1_2 t675 t678 t681 t682 w0 _ ?side1 ?side2 ?side3 ?side4 ch.out).mono ?_);(case side1=>exact kq36 Z ak am);(case side2=>exact Kd.R_tight rfl D.out);(case side3=>exact Kd.C_kept_own ((Kd.R_apart' ae.out (Kd.R_typed D.out) kq2)) (fun k_ hk_ hs_=>(hk_.2) hs_));(case side4=>exact(Kd.R_reads' ae.out).2.1);rintro e cP ⟨be,aW,rfl,ho0,ho1,hb,hkp⟩;refine⟨_,rfl,?_⟩;have aM:=mk (Kd.R_mono (ok':=fun k_=>((P0_0_ k_∨P0_1_ k_∨P1_0_ k_∨P1_1_ k_)∨w.heap.size≤k_)∧some k_≠(.slice aH l1_0.length aI:Value).ownBlock) ho0 (fun k_ hk_=>⟨Or.elim hk_ (fun hs_=>(D.out.1 k_ (hs_).symm).1) (fun hn_=>(.inr (Nat.le_trans (kq75 L aa al) hn_))),Or.elim hk_ (fun hs_=>fun e_=>(((G.out).1 k_ e_.symm).2) hs_) (fun hn_=>(Kd.fresh' (Kd.R_lt (kq9 G)) k_ hn_))⟩));have aN:=mk (Kd.R_mono (ok':=fun k_=>((P0_0_ k_∨P0_1_ k_∨P1_0_ k_∨P1_1_ k_)∨w.heap.size≤k_)∧some k_≠(.slice ay l0_1.length az:Value).ownBlock∧some k_≠(.slice an l1_1.length ao:Value).ownBlock) ho1 (fun k_ hk_=>⟨Or.elim hk_ (fun hs_=>(D.out.1 k_ (hs_).symm).1) (fun hn_=>(.inr (Nat.le_trans (kq75 L aa al) hn_))),Or.elim hk_ (fun hs_=>fun e_=>((((Kd.R_apart' ae.out (Kd.R_typed D.out) kq2)).1 k_ e_.symm).2) hs_) (fun hn_=>(Kd.fresh' (Kd.R_lt (kq9 ae)) k_ hn_)),Or.elim hk_ (fun hs_=>fun e_=>((((Kd.R_apart' af.out (Kd.R_typed D.out) kq2)).1 k_ e_.symm).2) hs_) (fun hn_=>(Kd.fresh' (Kd.R_lt (kq9 af)) k_ hn_))⟩));replace ae:=mk (Kd.R_mono (ok':=fun k_=>((P0_0_ k_∨P0_1_ k_∨P1_0_ k_∨P1_1_ k_)∨w.heap.size≤k_)∧some k_≠(.slice an l1_1.length ao:Value).ownBlock∧some k_≠(aW:Value).ownBlock) (Kd.R_keptB ((Kd.R_apart' ae.out (Kd.R_typed D.out) kq2)) hkp (fun k_ hk_ hs_=>(hk_.2) hs_)) (fun k_ hk_=>⟨hk_.1.1.1,hk_.1.1.2,fun e_=>Or.elim (ho1.1 k_ e_.symm) (fun hs_=>hk_.2.1 hs_) (fun hn_=>Nat.not_le.2 hk_.2.2 hn_)⟩));replace G:=mk (Kd.R_mono (ok':=fun k_=>((P0_0_ k_∨P0_1_ k_∨P1_0_ k_∨P1_1_ k_)∨w.heap.size≤k_)∧some k_≠(be:Value).ownBlock) (Kd.R_keptB (G.out) hkp (fun k_ hk_ hs_=>(hk_.2) hs_)) (fun k_ hk_=>⟨hk_.1.1,fun e_=>Or.elim (ho0.1 k_ e_.symm) (fun hs_=>hk_.2.1 hs_) (fun hn_=>Nat.not_le.2 hk_.2.2 hn_)⟩));replace af:=mk (Kd.R_mono (ok':=fun k_=>((P0_0_ k_∨P0_1_ k_∨P1_0_ k_∨P1_1_ k_)∨w.heap.size≤k_)∧some k_≠(.slice ay l0_1.length az:Value).ownBlock∧some k_≠(aW:Value).ownBlock) (Kd.R_keptB ((Kd.R_apart' af.out (Kd.R_typed D.out) kq2)) hkp (fun k_ hk_ hs_=>(hk_.2) hs_)) (fun k_ hk_=>⟨hk_.1.1.1,hk_.1.1.2,fun e_=>Or.elim (ho1.1 k_ e_.symm) (fun hs_=>hk_.2.1 hs_) (fun hn_=>Nat.not_le.2 hk_.2.2 hn_)⟩));replace r:=mk (zbN (kq22 r) hkp (fun hs_=>(fun e_=>(Kd.R_ne D.out r.out kq2) e_) hs_));replace J:=mk (zbN (kq22 J) hkp (fun hs_=>(fun e_=>(Kd.R_ne D.out J.out kq2) e_) hs_));replace I:=mk (zbN (kq22 I) hkp (fun hs_=>(fun e_=>(Kd.R_ne D.out I.out kq2) e_) hs_));replace HK:=mk (Kept.then_ (S:=(fun k_=>P0_0_ k_∨P0_1_ k_∨P1_0_ k_∨P1_1_ k_)) (kq76 L aa al) hkp (fun k_ hs_=>(fun e_=>(D.out.1 k_ e_.symm).1) hs_));replace HB:=mk (hb);clear D;obtain⟨Ao39,co39,bf⟩:=Kd.R_slice aM.out;subst bf;obtain⟨_,_,_,_,_,_,_,_⟩:=cz4_ I.out;obtain⟨Ao41,co41,bg⟩:=Kd.R_slice aN.out;subst bg)));refine bodyPost_ret (results_cell_row rfl _ _ gb674 107 #[.slice Ao39 t675.length co39,.slice Ao41 t678.length co41,.int .i64 t681,.int .i64 t682] (0,0) _ rfl (by(with_reducible repeat(first|refine zag ?_ _|refine zaf ?_|refine zab ?_ _));refine zak (cs:=#[.slice Ao39 t675.length co39,.slice Ao41 t678.length co41,.int .i64 t681,.int .i64 0]) ?_ 3 _ rfl;(with_reducible repeat(first|refine zag ?_ _|refine zaf ?_|refine zab ?_ _));refine zak (cs:=#[.slice Ao39 t675.length co39,.slice Ao41 t678.length co41,.int .i64 0,.int .i64 0]) ?_ 2 _ rfl;(with_reducible repeat(first|refine zag ?_ _|refine zaf ?_|refine zab ?_ _));refine zak (cs:=#[.slice Ao39 t675.length co39,.slice none 0 0,.int .i64 0,.int .i64 0]) ?_ 1 _ rfl;(with_reducible repeat(first|refine zag ?_ _|refine zaf ?_|refine zab ?_ _));refine zak (cs:=#[.slice none 0 0,.slice none 0 0,.int .i64 0,.int .i64 0]) ?_ 0 _ rfl;(with_reducible repeat(first|refine zag ?_ _|refine zaf ?_|refine zab ?_ _));exact I.out) Try.underlying107 rfl kq0) rfl ?_;exact⟨_,_,kq18,(kq77 aM I),(kq77 aN I),(kq36 Z ak am),(kq76 L aa al)⟩
      ·have b5:decide (0<(l0_0.length:Int))=false:=decide_eq_false aK;have b6:decide (0<l0_0.length)=false:=decide_eq_false kq1;clear aK;replace H:=Option.bind_eq_some_iff.mp H;obtain⟨⟨t683,t686,t689,t690⟩,aX,H⟩:=H;replace H:(some (t683,t686,t689,t690))=some (r1,r2,r3,r4):=H;have cq:=mk aX;clear aX;simp only[Option.some.injEq,Prod.mk.injEq]at H;obtain⟨rfl,rfl,rfl,rfl⟩:=H;have cr:=ag.out;have ct:=ah.out;have cu:=ab.out;have cw:=ac.out;obtain⟨_,_,_,_,_,_,_,_⟩:=cz4_ r.out;have cx:=ai.out;have cy:=aj.out;obtain⟨_,_,_,_,_,_,_,_⟩:=cz4_ J.out;(go_wp2_with (first|((with_reducible refine zaE (f:=164) rfl ?_);refine za7 (some 39) rfl rfl Try.func164 kq0 rfl #[.agg #[.slice aH l1_0.length aI,.slice an l1_1.length ao,.int .i64 a1_2,.int .i64 a1_3],.int .i64 a0_2] rfl kq10 ?_;(with_reducible refine(zb6.calls (fun k_=>some k_=(.slice aH l1_0.length aI:Value).ownBlock) (.slice aH l1_0.length aI) l1_0 _ _ l1_1 a1_2 a1_3 a0_2 t683 t686 t689 t690 w0 _ ?side1 ?side2 ?side3 ?side4 cq.out).mono ?_);(case side1=>exact kq36 Z ak am);(case side2=>exact Kd.R_tight rfl G.out);(case side3=>exact Kd.C_kept_own ((Kd.R_apart' af.out (Kd.R_typed G.out) kq2)) (fun k_ hk_ hs_=>(hk_.2) hs_));(case side4=>exact(Kd.R_reads' af.out).2.1);rintro e cQ ⟨bh,aY,rfl,ho0,ho1,hb,hkp⟩;refine⟨_,rfl,?_⟩;have aQ:=mk (Kd.R_mono (ok':=fun k_=>((P0_0_ k_∨P0_1_ k_∨P1_0_ k_∨P1_1_ k_)∨w.heap.size≤k_)∧some k_≠(.slice aE l0_0.length aG:Value).ownBlock) ho0 (fun k_ hk_=>⟨Or.elim hk_ (fun hs_=>(G.out.1 k_ (hs_).symm).1) (fun hn_=>(.inr (Nat.le_trans (kq75 L aa al) hn_))),Or.elim hk_ (fun hs_=>fun e_=>(((D.out).1 k_ e_.symm).2) hs_) (fun hn_=>(Kd.fresh' (Kd.R_lt (kq9 D)) k_ hn_))⟩));have aT:=mk (Kd.R_mono (ok':=fun k_=>((P0_0_ k_∨P0_1_ k_∨P1_0_ k_∨P1_1_ k_)∨w.heap.size≤k_)∧some k_≠(.slice ay l0_1.length az:Value).ownBlock∧some k_≠(.slice an l1_1.length ao:Value).ownBlock) ho1 (fun k_ hk_=>⟨Or.elim hk_ (fun hs_=>(G.out.1 k_ (hs_).symm).1) (fun hn_=>(.inr (Nat.le_trans (kq75 L aa al) hn_))),Or.elim hk_ (fun hs_=>fun e_=>((((Kd.R_apart' ae.out (Kd.R_typed G.out) kq2)).1 k_ e_.symm).2) hs_) (fun hn_=>(Kd.fresh' (Kd.R_lt (kq9 ae)) k_ hn_)),Or.elim hk_ (fun hs_=>fun e_=>((((Kd.R_apart' af.out (Kd.R_typed G.out) kq2)).1 k_ e_.symm).2) hs_) (fun hn_=>(Kd.fresh' (Kd.R_lt (kq9 af)) k_ hn_))⟩));replace D:=mk (Kd.R_mono (ok':=fun k_=>((P0_0_ k_∨P0_1_ k_∨P1_0_ k_∨P1_1_ k_)∨w.heap.size≤k_)∧some k_≠(bh:Value).ownBlock) (Kd.R_keptB (D.out) hkp (fun k_ hk_ hs_=>(hk_.2) hs_)) (fun k_ hk_=>⟨hk_.1.1,fun e_=>Or.elim (ho0.1 k_ e_.symm) (fun hs_=>hk_.2.1 hs_) (fun hn_=>Nat.not_le.2 hk_.2.2 hn_)⟩));replace ae:=mk (Kd.R_mono (ok':=fun k_=>((P0_0_ k_∨P0_1_ k_∨P1_0_ k_∨P1_1_ k_)∨w.heap.size≤k_)∧some k_≠(.slice an l1_1.length ao:Value).ownBlock∧some k_≠(aY:Value).ownBlock) (Kd.R_keptB ((Kd.R_apart' ae.out (Kd.R_typed G.out) kq2)) hkp (fun k_ hk_ hs_=>(hk_.2) hs_)) (fun k_ hk_=>⟨hk_.1.1.1,hk_.1.1.2,fun e_=>Or.elim (ho1.1 k_ e_.symm) (fun hs_=>hk_.2.1 hs_) (fun hn_=>Nat.not_le.2 hk_.2.2 hn_)⟩));replace af:=mk (Kd.R_mono (ok':=fun k_=>((P0_0_ k_∨P0_1_ k_∨P1_0_ k_∨P1_1_ k_)∨w.heap.size≤k_)∧some k_≠(.slice ay l0_1.length az:Value).ownBlock∧some k_≠(aY:Value).ownBlock) (Kd.R_keptB ((Kd.R_apart' af.out (Kd.R_typed G.out) kq2)) hkp (fun k_ hk_ hs_=>(hk_.2) hs_)) (fun k_ hk_=>⟨hk_.1.1.1,hk_.1.1.2,fun e_=>Or.elim (ho1.1 k_ e_.symm) (fun hs_=>hk_.2.1 hs_) (fun hn_=>Nat.not_le.2 hk_.2.2 hn_)⟩));replace r:=mk (zbN (kq22 r) hkp (fun hs_=>(fun e_=>(Kd.R_ne G.out r.out kq2) e_) hs_));replace J:=mk (zbN (kq22 J) hkp (fun hs_=>(fun e_=>(Kd.R_ne G.out J.out kq2) e_) hs_));replace I:=mk (zbN (kq22 I) hkp (fun hs_=>(fun e_=>(Kd.R_ne G.out I.out kq2) e_) hs_));replace HK:=mk (Kept.then_ (S:=(fun k_=>P0_0_ k_∨P0_1_ k_∨P1_0_ k_∨P1_1_ k_)) (kq76 L aa al) hkp (fun k_ hs_=>(fun e_=>(G.out.1 k_ e_.symm).1) hs_));replace HB:=mk (hb);clear G;obtain⟨Ao49,co49,bi⟩:=Kd.R_slice aQ.out;subst bi;obtain⟨_,_,_,_,_,_,_,_⟩:=cz4_ I.out;obtain⟨Ao51,co51,bj⟩:=Kd.R_slice aT.out;subst bj)));refine bodyPost_ret (results_cell_row rfl _ _ gb674 107 #[.slice Ao49 t683.length co49,.slice Ao51 t686.length co51,.int .i64 t689,.int .i64 t690] (0,0) _ rfl (by(with_reducible repeat(first|refine zag ?_ _|refine zaf ?_|refine zab ?_ _));refine zak (cs:=#[.slice Ao49 t683.length co49,.slice Ao51 t686.length co51,.int .i64 t689,.int .i64 0]) ?_ 3 _ rfl;(with_reducible repeat(first|refine zag ?_ _|refine zaf ?_|refine zab ?_ _));refine zak (cs:=#[.slice Ao49 t683.length co49,.slice Ao51 t686.length co51,.int .i64 0,.int .i64 0]) ?_ 2 _ rfl;(with_reducible repeat(first|refine zag ?_ _|refine zaf ?_|refine zab ?_ _));refine zak (cs:=#[.slice Ao49 t683.length co49,.slice none 0 0,.int .i64 0,.int .i64 0]) ?_ 1 _ rfl;(with_reducible repeat(first|refine zag ?_ _|refine zaf ?_|refine zab ?_ _));refine zak (cs:=#[.slice none 0 0,.slice none 0 0,.int .i64 0,.int .i64 0]) ?_ 0 _ rfl;(with_reducible repeat(first|refine zag ?_ _|refine zaf ?_|refine zab ?_ _));exact I.out) Try.underlying107 rfl kq0) rfl ?_;exact⟨_,_,kq18,(kq78 aQ I),(kq78 aT I),(kq36 Z ak am),(kq76 L aa al)⟩
  ·obtain⟨bb,bc⟩:=eFn_ c4;simp only[Option.some.injEq,Prod.mk.injEq]at H;obtain⟨rfl,rfl,rfl,rfl⟩:=H;obtain⟨bk,bm,bn⟩:=Kd.R_slice M.out;subst bn;obtain⟨bo,bp,br⟩:=Kd.R_slice U.out;subst br;(go_enter Try.func122,Try.ntmps122);(go_wp2_with (first|((with_reducible refine zao (N:=2) rfl ?_);(try(refine zbf (by rfl) ?_;dsimp only));refine zal ?hg (N:=2) ?hd (cs:=#[.slice bk l0_0.length bm,.slice bo l0_1.length bp,.int .i64 a0_2,.int .i64 a0_3]) (t:=107) ?hr ?_;(case hd=>rfl);(case hg=>rfl);(case hr=>exact kq21);intro ap hg cR hbox hb;have r:=mk (hbox);have L:=mk ((by rw[hg];exact kq68:w.heap.size≤ap));have Z:=(gs_ hg kq8);replace M:=mk (Kd.R_below (kq9 M) hb);replace U:=mk (Kd.R_below (kq9 U) hb);replace X:=mk (Kd.R_below (kq9 X) hb);replace Y:=mk (Kd.R_below (kq9 Y) hb);replace HK:=mk (Kept.below (S:=(fun k_=>P0_0_ k_∨P0_1_ k_∨P1_0_ k_∨P1_1_ k_)) kq69 hb);replace HB:=mk (zaa kq8 hb);clear hb hbox hg;obtain⟨Ao55,co55,bs⟩:=Kd.R_slice X.out;subst bs;obtain⟨Ao56,co56,bu⟩:=Kd.R_slice Y.out;subst bu)|((with_reducible refine zao (N:=3) rfl ?_);(try(refine zbf (by rfl) ?_;dsimp only));refine zal ?hg (N:=3) ?hd (cs:=#[.slice Ao55 l1_0.length co55,.slice Ao56 l1_1.length co56,.int .i64 a1_2,.int .i64 a1_3]) (t:=107) ?hr ?_;(case hd=>rfl);(case hg=>rfl);(case hr=>exact kq21);intro aq hg cS hbox hb;have J:=mk (hbox);have aa:=mk ((by rw[hg];exact(kq70 L):w.heap.size≤aq));have ak:=(gs_ hg (kq20 Z));have ag:=(nl_ hg r);have ah:=(ng_ hg r);replace M:=mk (Kd.R_below (kq9 M) hb);replace U:=mk (Kd.R_below (kq9 U) hb);replace X:=mk (Kd.R_below (kq9 X) hb);replace Y:=mk (Kd.R_below (kq9 Y) hb);replace r:=(bb_ r hb);replace HK:=mk (Kept.below (S:=(fun k_=>P0_0_ k_∨P0_1_ k_∨P1_0_ k_∨P1_1_ k_)) (kq71 L) hb);replace HB:=mk (zaa (kq20 Z) hb);clear hb hbox hg)|((with_reducible refine zao (N:=4) rfl ?_);(try(refine zbf (by rfl) ?_;dsimp only));refine zal ?hg (N:=4) ?hd (cs:=#[.slice none 0 0,.slice none 0 0,.int .i64 0,.int .i64 0]) (t:=107) ?hr ?_;(case hd=>rfl);(case hg=>rfl);(case hr=>exact kq21);intro gb674 hg cT hbox hb;have I:=mk (hbox);have al:=mk ((by rw[hg];exact(kq72 L aa):w.heap.size≤gb674));have am:=(gs_ hg (kq31 Z ak));have ab:=(nl_ hg r);have ac:=(ng_ hg r);have ai:=(nl_ hg J);have aj:=(ng_ hg J);replace M:=mk (Kd.R_below (kq9 M) hb);replace U:=mk (Kd.R_below (kq9 U) hb);replace X:=mk (Kd.R_below (kq9 X) hb);replace Y:=mk (Kd.R_below (kq9 Y) hb);replace r:=(bb_ r hb);replace J:=(bb_ J hb);replace HK:=mk (Kept.below (S:=(fun k_=>P0_0_ k_∨P0_1_ k_∨P1_0_ k_∨P1_1_ k_)) (kq73 L aa) hb);replace HB:=mk (zaa (kq31 Z ak) hb);clear hb hbox hg;have cz:=ag.out;have cA:=ah.out;have cB:=ab.out;have cC:=ac.out;obtain⟨_,_,_,_,_,_,_,_⟩:=cz4_ r.out;have cD:=ai.out;have cE:=aj.out;obtain⟨_,_,_,_,_,_,_,_⟩:=cz4_ J.out;obtain⟨_,_,_,_,_,_,_,_⟩:=cz4_ I.out)));refine bodyPost_ret (results_cell_row rfl _ _ gb674 107 #[.slice Ao55 l1_0.length co55,.slice Ao56 l1_1.length co56,.int .i64 a1_2,.int .i64 a1_3] (0,0) _ rfl (by(with_reducible repeat(first|refine zag ?_ _|refine zaf ?_|refine zab ?_ _));refine zak (cs:=#[.slice Ao55 l1_0.length co55,.slice Ao56 l1_1.length co56,.int .i64 a1_2,.int .i64 0]) ?_ 3 _ rfl;(with_reducible repeat(first|refine zag ?_ _|refine zaf ?_|refine zab ?_ _));refine zak (cs:=#[.slice Ao55 l1_0.length co55,.slice Ao56 l1_1.length co56,.int .i64 0,.int .i64 0]) ?_ 2 _ rfl;(with_reducible repeat(first|refine zag ?_ _|refine zaf ?_|refine zab ?_ _));refine zak (cs:=#[.slice Ao55 l1_0.length co55,.slice none 0 0,.int .i64 0,.int .i64 0]) ?_ 1 _ rfl;(with_reducible repeat(first|refine zag ?_ _|refine zaf ?_|refine zab ?_ _));refine zak (cs:=#[.slice none 0 0,.slice none 0 0,.int .i64 0,.int .i64 0]) ?_ 0 _ rfl;(with_reducible repeat(first|refine zag ?_ _|refine zaf ?_|refine zab ?_ _));exact I.out) Try.underlying107 rfl kq0) rfl ?_;exact⟨_,_,kq18,(kq79 X I),(kq79 Y I),(kq36 Z ak am),(kq76 L aa al)⟩
 ·rw[if_neg c3]at H
  have b9:=eF_ c3
  have ba:=nT_ c3
  simp only[Option.some.injEq,Prod.mk.injEq]at H
  obtain⟨rfl,rfl,rfl,rfl⟩:=H
  obtain⟨Ao65,co65,bv⟩:=Kd.R_slice M.out
  subst bv
  obtain⟨Ao66,co66,bw⟩:=Kd.R_slice U.out
  subst bw
  go_enter Try.func122,Try.ntmps122
  go_wp2_with (first|((with_reducible refine zao (N:=2) rfl ?_);(try(refine zbf (by rfl) ?_;dsimp only));refine zal ?hg (N:=2) ?hd (cs:=#[.slice Ao65 l0_0.length co65,.slice Ao66 l0_1.length co66,.int .i64 a0_2,.int .i64 a0_3]) (t:=107) ?hr ?_;(case hd=>rfl);(case hg=>rfl);(case hr=>exact kq21);intro ap hg cU hbox hb;have r:=mk (hbox);have L:=mk ((by rw[hg];exact kq68:w.heap.size≤ap));have Z:=(gs_ hg kq8);replace M:=mk (Kd.R_below (kq9 M) hb);replace U:=mk (Kd.R_below (kq9 U) hb);replace X:=mk (Kd.R_below (kq9 X) hb);replace Y:=mk (Kd.R_below (kq9 Y) hb);replace HK:=mk (Kept.below (S:=(fun k_=>P0_0_ k_∨P0_1_ k_∨P1_0_ k_∨P1_1_ k_)) kq69 hb);replace HB:=mk (zaa kq8 hb);clear hb hbox hg;obtain⟨bx,bz,bA⟩:=Kd.R_slice X.out;subst bA;obtain⟨bB,bC,bD⟩:=Kd.R_slice Y.out;subst bD)|((with_reducible refine zao (N:=3) rfl ?_);(try(refine zbf (by rfl) ?_;dsimp only));refine zal ?hg (N:=3) ?hd (cs:=#[.slice bx l1_0.length bz,.slice bB l1_1.length bC,.int .i64 a1_2,.int .i64 a1_3]) (t:=107) ?hr ?_;(case hd=>rfl);(case hg=>rfl);(case hr=>exact kq21);intro aq hg cV hbox hb;have J:=mk (hbox);have aa:=mk ((by rw[hg];exact(kq70 L):w.heap.size≤aq));have ak:=(gs_ hg (kq20 Z));have ag:=(nl_ hg r);have ah:=(ng_ hg r);replace M:=mk (Kd.R_below (kq9 M) hb);replace U:=mk (Kd.R_below (kq9 U) hb);replace X:=mk (Kd.R_below (kq9 X) hb);replace Y:=mk (Kd.R_below (kq9 Y) hb);replace r:=(bb_ r hb);replace HK:=mk (Kept.below (S:=(fun k_=>P0_0_ k_∨P0_1_ k_∨P1_0_ k_∨P1_1_ k_)) (kq71 L) hb);replace HB:=mk (zaa (kq20 Z) hb);clear hb hbox hg)|((with_reducible refine zao (N:=4) rfl ?_);(try(refine zbf (by rfl) ?_;dsimp only));refine zal ?hg (N:=4) ?hd (cs:=#[.slice none 0 0,.slice none 0 0,.int .i64 0,.int .i64 0]) (t:=107) ?hr ?_;(case hd=>rfl);(case hg=>rfl);(case hr=>exact kq21);intro gb674 hg cW hbox hb;have I:=mk (hbox);have al:=mk ((by rw[hg];exact(kq72 L aa):w.heap.size≤gb674));have am:=(gs_ hg (kq31 Z ak));have ab:=(nl_ hg r);have ac:=(ng_ hg r);have ai:=(nl_ hg J);have aj:=(ng_ hg J);replace M:=mk (Kd.R_below (kq9 M) hb);replace U:=mk (Kd.R_below (kq9 U) hb);replace X:=mk (Kd.R_below (kq9 X) hb);replace Y:=mk (Kd.R_below (kq9 Y) hb);replace r:=(bb_ r hb);replace J:=(bb_ J hb);replace HK:=mk (Kept.below (S:=(fun k_=>P0_0_ k_∨P0_1_ k_∨P1_0_ k_∨P1_1_ k_)) (kq73 L aa) hb);replace HB:=mk (zaa (kq31 Z ak) hb);clear hb hbox hg;have cF:=ag.out;have cG:=ah.out;have cH:=ab.out;have cI:=ac.out;obtain⟨_,_,_,_,_,_,_,_⟩:=cz4_ r.out;have cJ:=aj.out;have cK:=ai.out;obtain⟨_,_,_,_,_,_,_,_⟩:=cz4_ I.out))
  refine bodyPost_ret (results_cell_row rfl _ _ gb674 107 #[.slice Ao65 l0_0.length co65,.slice Ao66 l0_1.length co66,.int .i64 a0_2,.int .i64 a0_3] (0,0) _ rfl (by(with_reducible repeat(first|refine zag ?_ _|refine zaf ?_|refine zab ?_ _));refine zak (cs:=#[.slice Ao65 l0_0.length co65,.slice Ao66 l0_1.length co66,.int .i64 a0_2,.int .i64 0]) ?_ 3 _ rfl;(with_reducible repeat(first|refine zag ?_ _|refine zaf ?_|refine zab ?_ _));refine zak (cs:=#[.slice Ao65 l0_0.length co65,.slice Ao66 l0_1.length co66,.int .i64 0,.int .i64 0]) ?_ 2 _ rfl;(with_reducible repeat(first|refine zag ?_ _|refine zaf ?_|refine zab ?_ _));refine zak (cs:=#[.slice Ao65 l0_0.length co65,.slice none 0 0,.int .i64 0,.int .i64 0]) ?_ 1 _ rfl;(with_reducible repeat(first|refine zag ?_ _|refine zaf ?_|refine zab ?_ _));refine zak (cs:=#[.slice none 0 0,.slice none 0 0,.int .i64 0,.int .i64 0]) ?_ 0 _ rfl;(with_reducible repeat(first|refine zag ?_ _|refine zaf ?_|refine zab ?_ _));exact I.out) Try.underlying107 rfl kq0) rfl ?_
  exact⟨_,_,kq18,(kq80 M I),(kq80 U I),(kq36 Z ak am),(kq76 L aa al)⟩
end Go.Proofs.Ytjknpmibdkoklaa.Q
