/- Functions of the given program as Lean functions, each with its contract, and what they answer; words for it. No condition but those of each. -/
import Derived.Test.YtjknpmibdkoklaaMNS
import Derived.Test.YtjknpmibdkoklaaMNR
import Derived.Test.YtjknpmibdkoklaaMN14
import Derived.Test.YtjknpmibdkoklaaMN8
import Derived.LoopTactic
import Derived.Shelf.Abstract
set_option linter.unusedVariables false
set_option linter.unusedSimpArgs false
set_option maxRecDepth 100000
namespace Go.Proofs.Ytjknpmibdkoklaa.Q
open Go.RowKit Go.Proofs.YtjknpmibdkoklaaW.PrintWords Go.Proofs.YtjknpmibdkoklaaW.PrintLast Go.Proofs.YtjknpmibdkoklaaW.PrintMore
open Aside0 (mk)
def addP (a b:Int):Int × Int:=(zcv.f a b).getD (0,0)
def subP (a b:Int):Int × Int:=(zcq.f a b).getD (0,0)
theorem zgC (a b:Int):zcv.f a b=some ((addP a b).1,(addP a b).2):=by
 have h:∃p,zcv.f a b=some p:=by
  unfold zcv.f
  (repeat' split)<;>exact⟨_,rfl⟩
 obtain⟨p,hp⟩:=h
 unfold addP
 rw[hp]
 rfl
theorem zfM (a b:Int):zcq.f a b=some ((subP a b).1,(subP a b).2):=by
 have h:∃p,zcq.f a b=some p:=by
  unfold zcq.f
  (repeat' split)<;>exact⟨_,rfl⟩
 obtain⟨p,hp⟩:=h
 unfold subP
 rw[hp]
 rfl
def errB (op:Int→Int→Int × Int) (l0:List ByteArray) (l1:List Int) (m0:List ByteArray) (m1:List Int) (er:Int):List ByteArray→Int
 | []=>er
 |s::l=>errB op l0 l1 m0 m1 (zbu er (op (ofS l0 l1 s) (ofS m0 m1 s)).2) l
theorem zfN (op:Int→Int→Int × Int) (f:List ByteArray) (r:List Int) (D:List ByteArray) (G:List Int) (l:List ByteArray) (er:Int) (i:Nat) (h:i<l.length):errB op f r D G er (l.take (i+1))=zbu (errB op f r D G er (l.take i)) (op (ofS f r l[i]) (ofS D G l[i])).2:=by
 induction l generalizing er i with
 |nil=>exact absurd h (Nat.not_lt_zero _)
 |cons c l ih=>
  cases i with
  |zero=>rfl
  |succ i=>exact ih _ i (by simpa using h)
def zcg (op:Int→Int→Int × Int) (l0:List ByteArray) (l1:List Int) (m0:List ByteArray) (m1:List Int) (l:List ByteArray):List Int:=l.map fun s=>(op (ofS l0 l1 s) (ofS m0 m1 s)).1
theorem ze1 (op:Int→Int→Int × Int) (f:List ByteArray) (r:List Int) (D:List ByteArray) (G:List Int) (l:List ByteArray) (i:Nat) (h:i<l.length):zcg op f r D G (l.take (i+1))=zcg op f r D G (l.take i)++[(op (ofS f r l[i]) (ofS D G l[i])).1]:=by
 unfold zcg
 rw[List.take_succ_eq_append_getElem h,List.map_append]
 rfl
theorem ze2 (a b:List ByteArray):(zch a b).1.length≤a.length+b.length:=by
 unfold zch
 split
 ·split
  ·have:=zcn (a++b);rw[List.length_append]at this;exact this
  ·exact Nat.zero_le _
 ·exact Nat.zero_le _
set_option maxHeartbeats 16000000 in
theorem zeh (A0:Option Addr) (c0:Nat) (f:List ByteArray) (A1:Option Addr) (c1:Nat) (D:List Int) (ka ea:Int) (B0:Option Addr) (d0:Nat) (r:List ByteArray) (B1:Option Addr) (d1:Nat) (G:List Int) (kb eb:Int) (w:World)
 (ab:Kd.C Kd.string w A0 f.length f) (hc0:f.length≤c0) (ac:Kd.C (Kd.int .i64) w A1 D.length D) (hc1:D.length≤c1) (ae:Kd.C Kd.string w B0 r.length r) (hd0:r.length≤d0) (af:Kd.C (Kd.int .i64) w B1 G.length G) (hd1:G.length≤d1)
 (hla:f.length≤100000) (hlb:r.length≤100000) (hle:f.length≤D.length) (hlf:r.length≤G.length) (he:ea=0) (hf:eb=0) :
 Calls Try.prog 82 #[.agg #[.slice A0 f.length c0,.slice A1 D.length c1,.int .i64 ka,.int .i64 ea],.agg #[.slice B0 r.length d0,.slice B1 G.length d1,.int .i64 kb,.int .i64 eb],.func (.func 83) #[] #[]] w fun e w'=>∃v0 v1:Value,e= .returned (.agg #[v0,v1,.int .i64 (subP ka kb).1,.int .i64 (zbu (errB subP f D r G 0 (zch f r).1) (subP ka kb).2)])∧Kd.R Kd.string 9 w' w.heap.size (fun _=>True) v0 (zch f r).1∧Kd.R (Kd.int .i64) 2 w' w.heap.size (fun _=>True) v1 (zcg subP f D r G (zch f r).1)∧Below w.heap.size w w':=by
 have al:=Try.underlying107
 subst he hf
 obtain⟨ku,hku⟩:=(zgI f r kq1 kq1).rounds
 have hul:=ze2 f r
 have HKU:=mk hku
 have HUL:=mk (show(zch f r).1.length≤200000 by omega)
 have HOA:=mk (fun s=>ziq f D ka 0 s kq1 hle)
 have HOB:=mk (fun s=>ziq r G kb 0 s kq1 hlf)
 have ag:=mk ab
 have ah:=mk hc0
 have am:=mk ac
 have an:=mk hc1
 have ai:=mk ae
 have HD0:=mk hd0
 have ao:=mk af
 have HD1:=mk hd1
 clear ab hc0 ac hc1 ae hd0 af hd1 hku hul hla hlb hle hlf
 generalize hus:zch f r=U at HKU HUL
 obtain⟨us,ue⟩:=U
 clear hus
 dsimp only at HKU HUL ⊢
 have HB:=mk (Below.refl w.heap.size w)
 go_enter Try.func82,Try.ntmps82
 go_wp2_with (first|((with_reducible refine zao (N:=3) rfl ?_);refine zal ?hg (N:=3) ?hd (cs:=#[.slice A0 f.length c0,.slice A1 D.length c1,.int .i64 ka,.int .i64 0]) (t:=107) ?hr ?_;(case hd=>rfl);(case hg=>rfl);(case hr=>exact kq21);intro g3 hg w3 hbox hb;have BKg3:=mk hbox;have GEg3:=mk (kq42:w.heap.size≤g3);replace HB:=mk (zaa kq43 hb);clear hb hbox hg;obtain⟨_,_,_,_,_,_,_,_⟩:=cz4_ BKg3.out)|((with_reducible refine zao (N:=4) rfl ?_);refine zal ?hg (N:=4) ?hd (cs:=#[.slice B0 r.length d0,.slice B1 G.length d1,.int .i64 kb,.int .i64 0]) (t:=107) ?hr ?_;(case hd=>rfl);(case hg=>rfl);(case hr=>exact kq21);intro g4 hg w4 hbox hb;have BKg4:=mk hbox;have GEg4:=mk (kq42:w.heap.size≤g4);have NBg3g4:=mk ((kq44 BKg3):g3≠g4);have NBg4g3:=mk ((kq46 BKg3):g4≠g3);replace BKg3:=(bc_ BKg3 hb (kq45 BKg3));replace HB:=mk (zaa kq43 hb);clear hb hbox hg;have ne_g3g4:=NBg3g4.out;have ne_g4g3:=NBg4g3.out;obtain⟨_,_,_,_,_,_,_,_⟩:=cz4_ BKg3.out;obtain⟨_,_,_,_,_,_,_,_⟩:=cz4_ BKg4.out)|((with_reducible refine zao (N:=6) rfl ?_);refine zal ?hg (N:=6) ?hd (cs:=#[.slice none 0 0,.slice none 0 0,.int .i64 0,.int .i64 0]) (t:=107) ?hr ?_;(case hd=>rfl);(case hg=>rfl);(case hr=>exact kq21);intro g6 hg w6 hbox hb;have BKg6:=mk hbox;have GEg6:=mk (kq42:w.heap.size≤g6);have NBg3g6:=mk ((kq47 BKg3 NBg3g4):g3≠g6);have NBg6g3:=mk ((kq49 BKg3 NBg3g4):g6≠g3);have NBg4g6:=mk ((kq47 BKg4 NBg4g3):g4≠g6);have NBg6g4:=mk ((kq49 BKg4 NBg4g3):g6≠g4);replace BKg3:=(bc_ BKg3 hb (kq48 BKg3 NBg3g4));replace BKg4:=(bc_ BKg4 hb (kq48 BKg4 NBg4g3));replace HB:=mk (zaa kq43 hb);clear hb hbox hg;have ne_g3g6:=NBg3g6.out;have ne_g6g3:=NBg6g3.out;have ne_g4g6:=NBg4g6.out;have ne_g6g4:=NBg6g4.out;obtain⟨_,_,_,_,_,_,_,_⟩:=cz4_ BKg3.out;obtain⟨_,_,_,_,_,_,_,_⟩:=cz4_ BKg4.out;obtain⟨_,_,_,_,_,_,_,_⟩:=cz4_ BKg6.out)|((with_reducible refine zao (N:=7) rfl ?_);refine zal ?hg (N:=7) ?hd (cs:=#[.slice none 0 0,.slice none 0 0,.int .i64 0,.int .i64 0]) (t:=107) ?hr ?_;(case hd=>rfl);(case hg=>rfl);(case hr=>exact kq21);intro g7 hg w7 hbox hb;have BKg7:=mk hbox;have GEg7:=mk (kq42:w.heap.size≤g7);have NBg3g7:=mk ((kq50 BKg3 NBg3g4 NBg3g6):g3≠g7);have NBg7g3:=mk ((kq52 BKg3 NBg3g4 NBg3g6):g7≠g3);have NBg4g7:=mk ((kq50 BKg4 NBg4g3 NBg4g6):g4≠g7);have NBg7g4:=mk ((kq52 BKg4 NBg4g3 NBg4g6):g7≠g4);have NBg6g7:=mk ((kq50 BKg6 NBg6g3 NBg6g4):g6≠g7);have NBg7g6:=mk ((kq52 BKg6 NBg6g3 NBg6g4):g7≠g6);replace BKg3:=(bc_ BKg3 hb (kq51 BKg3 NBg3g4 NBg3g6));replace BKg4:=(bc_ BKg4 hb (kq51 BKg4 NBg4g3 NBg4g6));replace BKg6:=(bc_ BKg6 hb (kq51 BKg6 NBg6g3 NBg6g4));replace HB:=mk (zaa kq43 hb);clear hb hbox hg;have ne_g3g7:=NBg3g7.out;have ne_g7g3:=NBg7g3.out;have ne_g4g7:=NBg4g7.out;have ne_g7g4:=NBg7g4.out;have ne_g6g7:=NBg6g7.out;have ne_g7g6:=NBg7g6.out;obtain⟨_,_,_,_,_,_,_,_⟩:=cz4_ BKg3.out;obtain⟨_,_,_,_,_,_,_,_⟩:=cz4_ BKg4.out;obtain⟨_,_,_,_,_,_,_,_⟩:=cz4_ BKg6.out;obtain⟨_,_,_,_,_,_,_,_⟩:=cz4_ BKg7.out)|((go_at_call 21;(with_reducible refine(za3.calls ku A0 c0 f B0 d0 r us ue _ ?s1 ah.out ?s3 HD0.out HKU.out).mono ?_);(case s1=>exact kq57 ag GEg7);(case s3=>exact kq57 ai GEg7);rintro e w8 ⟨vn,rfl,hn,hb⟩;obtain⟨An,cn,evn⟩:=Kd.R_slice hn;subst evn;have HN:=mk (Kd.R_lower hn (zad (kq53 GEg7)));replace BKg3:=(bc_ BKg3 hb (kq48 BKg3 NBg3g7));replace BKg4:=(bc_ BKg4 hb (kq48 BKg4 NBg4g7));replace BKg6:=(bc_ BKg6 hb (kq48 BKg6 NBg6g7));replace BKg7:=mk (zai (zak (zak (zak (zak BKg7.out 0 _ rfl) 1 _ rfl) 2 _ rfl) 3 _ rfl) hb);replace HB:=mk (zaa (kq53 GEg7) hb);clear hn hb;obtain⟨_,_,_,_,_,_,_,_⟩:=cz4_ BKg3.out;obtain⟨_,_,_,_,_,_,_,_⟩:=cz4_ BKg4.out;obtain⟨_,_,_,_,_,_,_,_⟩:=cz4_ BKg7.out)))
 go_loopg [33] us.length (fun gq ap wr=>∃(i:Nat) (vc:Value),ap= .int .i64 i∧Aside0 (i≤us.length)∧Aside0 (us.length-i≤gq)∧Aside0 (wr.heap[g7]?=some (.cells #[.slice An us.length cn,vc,.int .i64 0,.int .i64 (errB subP f D r G 0 (us.take i))] 107 (0,0)))∧Aside0 (Kd.R Kd.string 9 wr w.heap.size (fun _=>True) (.slice An us.length cn) us)∧Aside0 (Kd.R (Kd.int .i64) 2 wr w.heap.size (fun _=>True) vc (zcg subP f D r G (us.take i)))∧Aside0 (wr.heap[g3]?=some (.cells #[.slice A0 f.length c0,.slice A1 D.length c1,.int .i64 ka,.int .i64 0] 107 (0,0)))∧Aside0 (wr.heap[g4]?=some (.cells #[.slice B0 r.length d0,.slice B1 G.length d1,.int .i64 kb,.int .i64 0] 107 (0,0)))∧Aside0 (wr.heap[g6]?=some (.cells #[.slice none 0 0,.slice none 0 0,.int .i64 0,.int .i64 0] 107 (0,0)))∧Aside0 (Below w.heap.size w wr))
 case atStart=>exact⟨0,.slice none 0 0,rfl,⟨Nat.zero_le _⟩,⟨kq1⟩,⟨zak BKg7.out 0 _ rfl⟩,⟨Kd.R_set HN.out BKg7.out kq2 0 _⟩,⟨kq60⟩,⟨zaj BKg3.out ne_g3g7 _⟩,⟨zaj BKg4.out ne_g4g7 _⟩,⟨zaj BKg6.out ne_g6g7 _⟩,⟨zav HB.out GEg7.out⟩⟩
 case round=>
  clear BKg7 BKg3 BKg4 BKg6 HB HN
  obtain⟨i,vc,rfl,HI,HQ,BKg7,HN,HRc,BKg3,BKg4,BKg6,HB⟩:=hrel
  by_cases hi:i<us.length
  ·have hiz:(i:Int)<(us.length:Int):=by omega
   have aq:(0:Int)≤(i:Int):=by omega
   obtain⟨ad,ead,hx⟩:=Kd.at_string (Kd.R_reads' HN.out).2.2 (i:Int) aq hiz
   cases ead
   rw[Int.toNat_natCast,zcM hi]at hx
   have HE:=mk (zfN subP f D r G us 0 i hi)
   have HM:=mk (ze1 subP f D r G us i hi)
   have HLT:=mk (show(zcg subP f D r G (us.take i)).length≤200000 by have:=HUL.out;unfold zcg;rw[List.length_map,List.length_take];omega)
   generalize us[i]=s at hx HE HM
   obtain⟨kx,hkx⟩:=HOA.out s
   obtain⟨ky,hky⟩:=HOB.out s
   have HX:=mk hkx
   have HY:=mk hky
   clear hkx hky
   generalize hxa:ofS f D s=x at HX HE HM
   generalize hxb:ofS r G s=y at HY HE HM
   clear hxa hxb
   go_wp2
   refine zbv (n:=17) (S:=fun w'=>w'.cell? ⟨g3,0,none⟩=some (.slice A0 f.length c0)∧w'.cell? ⟨g3,1,none⟩=some (.slice A1 D.length c1)∧w'.cell? ⟨g3,2,none⟩=some (.int .i64 ka)∧w'.cell? ⟨g3,3,none⟩=some (.int .i64 0)∧w'.cell? ⟨g4,0,none⟩=some (.slice B0 r.length d0)∧w'.cell? ⟨g4,1,none⟩=some (.slice B1 G.length d1)∧w'.cell? ⟨g4,2,none⟩=some (.int .i64 kb)∧w'.cell? ⟨g4,3,none⟩=some (.int .i64 0)∧w'.cell? ⟨g7,1,none⟩=some vc) (ds:=[16]) #[false,false,false,false,false,false,false,false,false,false,false,false,false,false,false,false,false] kq0 rfl rfl ⟨bk_ BKg3 0,bk_ BKg3 1,bk_ BKg3 2,bk_ BKg3 3,bk_ BKg4 0,bk_ BKg4 1,bk_ BKg4 2,bk_ BKg4 3,bk_ BKg7 1⟩ (fun hHeld=>?_)
   replace BKg3:Aside0 (wr.drew.heap[g3]?=some (.cells #[.slice A0 f.length c0,.slice A1 D.length c1,.int .i64 ka,.int .i64 0] 107 (0,0))):=⟨BKg3.out⟩
   replace BKg4:Aside0 (wr.drew.heap[g4]?=some (.cells #[.slice B0 r.length d0,.slice B1 G.length d1,.int .i64 kb,.int .i64 0] 107 (0,0))):=⟨BKg4.out⟩
   replace BKg6:Aside0 (wr.drew.heap[g6]?=some (.cells #[.slice none 0 0,.slice none 0 0,.int .i64 0,.int .i64 0] 107 (0,0))):=⟨BKg6.out⟩
   replace BKg7:Aside0 (wr.drew.heap[g7]?=some (.cells #[.slice (some ad) us.length cn,vc,.int .i64 0,.int .i64 (errB subP f D r G 0 (us.take i))] 107 (0,0))):=⟨BKg7.out⟩
   replace HN:Aside0 (Kd.R Kd.string 9 wr.drew w.heap.size (fun _=>True) (.slice (some ad) us.length cn) us):=⟨HN.out⟩
   replace HRc:Aside0 (Kd.R (Kd.int .i64) 2 wr.drew w.heap.size (fun _=>True) vc (zcg subP f D r G (us.take i))):=⟨HRc.out⟩
   replace HB:Aside0 (Below w.heap.size w wr.drew):=⟨zaP HB.out⟩
   generalize wr.drew=w9 at BKg3 BKg4 BKg6 BKg7 HN HRc HB hHeld ⊢
   refine pu_ 0 37 ?_
   refine pu_ 2 39 ?_
   refine pu_ 4 41 ?_
   refine pu_ 7 44 ?_
   refine ta_ 1 38 hHeld ?_
   refine ta_ 3 40 hHeld ?_
   refine ta_ 6 43 hHeld ?_
   refine on_ 5 42 (fun K hK=>?_)
   refine zbj Try.func123 kq0 rfl #[.agg #[.slice A0 f.length c0,.slice A1 D.length c1,.int .i64 ka,.int .i64 0],.string s] (by rfl) rfl rfl kq54 ?_
   refine(zbT.calls kx A0 c0 f A1 c1 D ka 0 s x _ (Kd.C_below ag.out HB.out) ah.out (Kd.C_below am.out HB.out) an.out HX.out).mono ?_
   rintro e av ⟨rfl,hb⟩
   refine⟨_,rfl,?_⟩
   have I:=mk (zai BKg3.out hb)
   have J:=mk (zai BKg4.out hb)
   have L:=mk (zai BKg6.out hb)
   have M:=mk (zai BKg7.out hb)
   have X:=mk (Kd.R_below HN.out hb)
   have Y:=mk (Kd.R_below HRc.out hb)
   have Z:=mk (zaa HB.out hb)
   clear BKg3 BKg4 BKg6 BKg7 HN HRc HB
   have BKg3:=I
   have BKg4:=J
   have BKg6:=L
   have BKg7:=M
   have HN:=X
   have HRc:=Y
   have HB:=Z
   clear I J L M X Y Z
   clear hb
   refine hK.out _ _ ⟨bk_ BKg3 0,bk_ BKg3 1,bk_ BKg3 2,bk_ BKg3 3,bk_ BKg4 0,bk_ BKg4 1,bk_ BKg4 2,bk_ BKg4 3,bk_ BKg7 1⟩ (fun hHeld=>?_)
   clear hK K
   refine za2 (a':=?_) ?_ ?_
   rotate_left
   ·show Act.put _ (some 42) _=_
    simp only[Act.put,List.setIfInBounds_toArray,List.set_cons_zero,List.set_cons_succ]
    rfl
   refine on_ 8 45 (fun K hK=>?_)
   refine zbj Try.func123 kq0 rfl #[.agg #[.slice B0 r.length d0,.slice B1 G.length d1,.int .i64 kb,.int .i64 0],.string s] (by rfl) rfl rfl kq54 ?_
   refine(zbT.calls ky B0 d0 r B1 d1 G kb 0 s y _ (Kd.C_below ai.out HB.out) HD0.out (Kd.C_below ao.out HB.out) HD1.out HY.out).mono ?_
   rintro e ar ⟨rfl,hb⟩
   refine⟨_,rfl,?_⟩
   have I:=mk (zai BKg3.out hb)
   have J:=mk (zai BKg4.out hb)
   have L:=mk (zai BKg6.out hb)
   have M:=mk (zai BKg7.out hb)
   have X:=mk (Kd.R_below HN.out hb)
   have Y:=mk (Kd.R_below HRc.out hb)
   have Z:=mk (zaa HB.out hb)
   clear BKg3 BKg4 BKg6 BKg7 HN HRc HB
   have BKg3:=I
   have BKg4:=J
   have BKg6:=L
   have BKg7:=M
   have HN:=X
   have HRc:=Y
   have HB:=Z
   clear I J L M X Y Z
   clear hb
   refine hK.out _ _ ⟨bk_ BKg3 0,bk_ BKg3 1,bk_ BKg3 2,bk_ BKg3 3,bk_ BKg4 0,bk_ BKg4 1,bk_ BKg4 2,bk_ BKg4 3,bk_ BKg7 1⟩ (fun hHeld=>?_)
   clear hK K
   refine za2 (a':=?_) ?_ ?_
   rotate_left
   ·show Act.put _ (some 45) _=_
    simp only[Act.put,List.setIfInBounds_toArray,List.set_cons_zero,List.set_cons_succ]
    rfl
   refine on_ 9 46 (fun K hK=>?_)
   refine ziW 83 #[.int .i64 x,.int .i64 y] (by rfl) rfl (by have he:=zff Try.func83 kq0 rfl #[.int .i64 x,.int .i64 y] ar;unfold execOp;simp [resolve,Deferred.ofValue,invoke,Act.eval,he]) ?_
   refine(zcq.calls x y _ _ _ (zfM x y)).mono ?_
   rintro e aw ⟨rfl,hd⟩
   have hb:=hd.below
   clear hd
   refine⟨_,rfl,?_⟩
   have I:=mk (zai BKg3.out hb)
   have J:=mk (zai BKg4.out hb)
   have L:=mk (zai BKg6.out hb)
   have M:=mk (zai BKg7.out hb)
   have X:=mk (Kd.R_below HN.out hb)
   have Y:=mk (Kd.R_below HRc.out hb)
   have Z:=mk (zaa HB.out hb)
   clear BKg3 BKg4 BKg6 BKg7 HN HRc HB
   have BKg3:=I
   have BKg4:=J
   have BKg6:=L
   have BKg7:=M
   have HN:=X
   have HRc:=Y
   have HB:=Z
   clear I J L M X Y Z
   clear hb
   refine hK.out _ _ ⟨bk_ BKg3 0,bk_ BKg3 1,bk_ BKg3 2,bk_ BKg3 3,bk_ BKg4 0,bk_ BKg4 1,bk_ BKg4 2,bk_ BKg4 3,bk_ BKg7 1⟩ (fun hHeld=>?_)
   clear hK K
   refine za2 (a':=?_) ?_ ?_
   rotate_left
   ·show Act.put _ (some 46) _=_
    simp only[Act.put,List.setIfInBounds_toArray,List.set_cons_zero,List.set_cons_succ]
    rfl
   refine pu_ 10 47 ?_
   refine pu_ 11 48 ?_
   refine on_ 12 49 (fun K hK=>?_)
   refine zbj Try.func84 kq0 rfl #[.pointer (some ⟨g7,0,none⟩),.int .i64 (subP x y).1,.int .i64 (subP x y).2] (by rfl) rfl rfl kq54 ?_
   refine(zbZ g7 (.slice (some ad) us.length cn) vc 0 (errB subP f D r G 0 (us.take i)) (subP x y).1 (subP x y).2 w _ GEg7.out HB.out BKg7.out).mono ?_
   rintro e aj ⟨rfl,hg,hk,hb⟩
   refine⟨_,rfl,?_⟩
   have I:=mk (hk.blk BKg3.out ne_g3g7 (by simp))
   have J:=mk (hk.blk BKg4.out ne_g4g7 (by simp))
   have L:=mk (hk.blk BKg6.out ne_g6g7 (by simp))
   have M:=mk (Kd.R_mono (Kd.R_keep (Kd.R_types HN.out BKg7.out kq2) hk (fun _ h=>h.2)) (fun _ h=>h.1))
   have X:=mk (Kd.R_mono (Kd.R_keep (Kd.R_types HRc.out BKg7.out kq2) hk (fun _ h=>h.2)) (fun _ h=>h.1))
   have Y:=mk (hg)
   have Z:=mk (hb)
   clear BKg3 BKg4 BKg6 HN HRc BKg7 HB
   have BKg3:=I
   have BKg4:=J
   have BKg6:=L
   have HN:=M
   have HRc:=X
   have BKg7:=Y
   have HB:=Z
   clear I J L M X Y Z
   clear hg hk hb
   refine hK.out _ _ ⟨bk_ BKg3 0,bk_ BKg3 1,bk_ BKg3 2,bk_ BKg3 3,bk_ BKg4 0,bk_ BKg4 1,bk_ BKg4 2,bk_ BKg4 3,bk_ BKg7 1⟩ (fun hHeld=>?_)
   clear hK K
   refine za2 (a':=?_) ?_ ?_
   rotate_left
   ·show Act.put _ (some 49) _=_
    simp only[Act.put,List.setIfInBounds_toArray,List.set_cons_zero,List.set_cons_succ]
    rfl
   refine on_ 13 50 (fun K hK=>?_)
   refine zbU (v:=.slice (some ⟨aj.heap.size,0,none⟩) 1 1) (w1:=aj.alloc (.cells #[.int .i64 (subP x y).1] 2)) (by rfl) rfl ?_ ?_
   ·go_simp
    all_goals first|done|rfl|exact⟨rfl,rfl⟩
   refine hK.out _ _ ⟨(za1 (zab BKg3.out _) 0).trans rfl,(za1 (zab BKg3.out _) 1).trans rfl,(za1 (zab BKg3.out _) 2).trans rfl,(za1 (zab BKg3.out _) 3).trans rfl,(za1 (zab BKg4.out _) 0).trans rfl,(za1 (zab BKg4.out _) 1).trans rfl,(za1 (zab BKg4.out _) 2).trans rfl,(za1 (zab BKg4.out _) 3).trans rfl,(za1 (zab BKg7.out _) 1).trans rfl⟩ (fun hHeld=>?_)
   clear hK K
   refine za2 (a':=?_) ?_ ?_
   rotate_left
   ·show Act.put _ (some 50) _=_
    simp only[Act.put,List.setIfInBounds_toArray,List.set_cons_zero,List.set_cons_succ]
    rfl
   refine on_ 14 51 (fun K hK=>?_)
   refine Kd.R_append_step (Kd.int .i64) (w0:=w) w.heap.size (by rfl) (.tmp 38) (.tmp 50) 55 2 (.int .i64 0) 8 (by rfl) Try.underlying55 zgq rfl kq2 kq2 vc (zcg subP f D r G (us.take i)) (subP x y).1 [.int .i64 (subP x y).1] (fun _=>True) (fun _=>False) (by rfl) (by rfl) rfl (fun _ hk=>hk.elim) (fun _ _=>trivial) HRc.out HB.out (zad HB.out) (by have:=HLT.out;omega) ?_
   intro v8 au aa hb8 hg8 hat8
   obtain⟨A8,c8,ev8⟩:=Kd.R_slice aa
   subst ev8
   have I:=mk (zaJ BKg3.out hg8 (Kd.R_ne HRc.out BKg3.out kq2))
   have J:=mk (zaJ BKg4.out hg8 (Kd.R_ne HRc.out BKg4.out kq2))
   have L:=mk (zaJ BKg6.out hg8 (Kd.R_ne HRc.out BKg6.out kq2))
   have M:=mk (zaJ BKg7.out hg8 (Kd.R_ne HRc.out BKg7.out kq2))
   have X:=mk (Kd.R_over HN.out HRc.out kq2 hg8)
   have Y:=mk (aa)
   have Z:=mk (hb8)
   clear BKg3 BKg4 BKg6 BKg7 HN HRc HB
   have BKg3:=I
   have BKg4:=J
   have BKg6:=L
   have BKg7:=M
   have HN:=X
   have HRc:=Y
   have HB:=Z
   clear I J L M X Y Z
   clear aa hb8 hg8 hat8
   refine hK.out _ _ ⟨bk_ BKg3 0,bk_ BKg3 1,bk_ BKg3 2,bk_ BKg3 3,bk_ BKg4 0,bk_ BKg4 1,bk_ BKg4 2,bk_ BKg4 3,bk_ BKg7 1⟩ (fun hHeld=>?_)
   clear hK K
   refine za2 (a':=?_) ?_ ?_
   rotate_left
   ·show Act.put _ (some 51) _=_
    simp only[Act.put,List.setIfInBounds_toArray,List.set_cons_zero,List.set_cons_succ]
    rfl
   refine pu_ 15 52 ?_
   have ax:au.cell? ⟨g7,1,none⟩=some vc:=bk_ BKg7 1
   have ay:=zaD BKg7.out 1
   refine zb4 (i:=16) (N:=none) #[true,true,true,true,true,true,true,true,true,true,true,true,true,true,true,true,true] rfl rfl kq0 kq2 (fun K hK=>?_)
   refine zbO (w1:=?_) (by rfl) rfl ?_ ?_
   rotate_left
   ·go_simp
    rfl
   refine hK.out _ _ ?_
   clear hK K
   refine zbC kq0 ?_
   try go_wp2
   go_roundg (us.length-(i+1))
   case measure=>have:=HQ.out;omega
   case rel=>
    have ak:=HRc.out
    rw[List.length_append,List.length_singleton,←HM.out]at ak
    exact⟨i+1,.slice A8 ((zcg subP f D r G (us.take i)).length+1) c8,kq61,⟨kq1⟩,⟨kq1⟩,⟨by rw[HE.out];exact zak BKg7.out 1 _ rfl⟩,⟨Kd.R_set HN.out BKg7.out kq2 1 _⟩,⟨Kd.R_set ak BKg7.out kq2 1 _⟩,⟨zaj BKg3.out ne_g3g7 _⟩,⟨zaj BKg4.out ne_g4g7 _⟩,⟨zaj BKg6.out ne_g6g7 _⟩,⟨zav HB.out GEg7.out⟩⟩
  ·have hiz:¬(i:Int)<(us.length:Int):=by omega
   have hil:i=us.length:=by have:=HI.out;omega
   have HX:=mk (show errB subP f D r G 0 (us.take i)=errB subP f D r G 0 us by rw[hil,List.take_length])
   have HY:=mk (show zcg subP f D r G (us.take i)=zcg subP f D r G us by rw[hil,List.take_length])
   clear hil hi
   obtain⟨Av,cv,ev⟩:=Kd.R_slice HRc.out
   subst ev
   obtain⟨_,_,_,_,_,_,_,_⟩:=cz4_ BKg3.out
   obtain⟨_,_,_,_,_,_,_,_⟩:=cz4_ BKg4.out
   obtain⟨_,_,_,_,_,_,_,_⟩:=cz4_ BKg6.out
   obtain⟨_,_,_,_,_,_,_,_⟩:=cz4_ BKg7.out
   go_wp2_with (first|((go_at_call 83;(with_reducible refine(zcq.calls ka kb _ _ _ (zfM ka kb)).mono ?_);rintro e az ⟨rfl,hd⟩;have hb:=hd.below;clear hd;replace BKg3:=(bc_ BKg3 hb (kq45 BKg3));replace BKg4:=(bc_ BKg4 hb (kq45 BKg4));replace BKg6:=(bc_ BKg6 hb (kq45 BKg6));replace BKg7:=(bc_ BKg7 hb (kq45 BKg7));replace HN:=mk (Kd.R_below kq55 hb);replace HRc:=mk (Kd.R_below (kq56 HRc) hb);replace HB:=mk (zaa kq43 hb);clear hb;obtain⟨_,_,_,_,_,_,_,_⟩:=cz4_ BKg6.out;obtain⟨_,_,_,_,_,_,_,_⟩:=cz4_ BKg7.out))|((go_at_call 84;(with_reducible refine(zbZ g7 (.slice An us.length cn) (.slice Av (zcg subP f D r G (us.take i)).length cv) 0 (errB subP f D r G 0 (us.take i)) (subP ka kb).1 (subP ka kb).2 w _ GEg7.out ?s1 ?s2).mono ?_);(case s1=>exact kq58);(case s2=>exact kq59 BKg7);rintro e aA ⟨rfl,hg,hk,hb⟩;replace BKg6:=mk (hk.blk (kq45 BKg6) ne_g6g7 (by simp));replace HN:=mk (Kd.R_mono (Kd.R_keep (Kd.R_types kq55 (kq45 BKg7) kq2) hk (fun _ h=>h.2)) (fun _ h=>h.1));replace HRc:=mk (Kd.R_mono (Kd.R_keep (Kd.R_types (kq56 HRc) (kq45 BKg7) kq2) hk (fun _ h=>h.2)) (fun _ h=>h.1));replace BKg7:=mk (hg);replace HB:=mk (hb);clear hg hk hb;obtain⟨_,_,_,_,_,_,_,_⟩:=cz4_ BKg6.out;obtain⟨_,_,_,_,_,_,_,_⟩:=cz4_ BKg7.out)))
   refine bodyPost_ret (results_cell_row rfl _ _ g6 107 #[.slice An us.length cn,.slice Av (zcg subP f D r G (us.take i)).length cv,.int .i64 (subP ka kb).1,.int .i64 (zbu (errB subP f D r G 0 (us.take i)) (subP ka kb).2)] (0,0) _ rfl (zak (zak (zak (zak (zaj BKg6.out ne_g6g7 _) 0 _ rfl) 1 _ rfl) 2 _ rfl) 3 _ rfl) Try.underlying107 rfl kq0) rfl ?_
   have p0:=Kd.R_types (Kd.R_types HN.out BKg7.out kq2) BKg6.out kq2
   have p1:=Kd.R_far (p:=⟨g7,2,none⟩) p0 (fun _ h=>h.1.2) (.int .i64 (subP ka kb).1)
   have p2:=Kd.R_far (p:=⟨g6,0,none⟩) p1 (fun _ h=>h.2) (.slice An us.length cn)
   have p3:=Kd.R_far (p:=⟨g6,1,none⟩) p2 (fun _ h=>h.2) (.slice Av (zcg subP f D r G (us.take i)).length cv)
   have p4:=Kd.R_far (p:=⟨g6,2,none⟩) p3 (fun _ h=>h.2) (.int .i64 (subP ka kb).1)
   have p5:=Kd.R_far (p:=⟨g6,3,none⟩) p4 (fun _ h=>h.2) (.int .i64 (zbu (errB subP f D r G 0 (us.take i)) (subP ka kb).2))
   have q0:=Kd.R_types (Kd.R_types HRc.out BKg7.out kq2) BKg6.out kq2
   have q1:=Kd.R_far (p:=⟨g7,2,none⟩) q0 (fun _ h=>h.1.2) (.int .i64 (subP ka kb).1)
   have q2:=Kd.R_far (p:=⟨g6,0,none⟩) q1 (fun _ h=>h.2) (.slice An us.length cn)
   have q3:=Kd.R_far (p:=⟨g6,1,none⟩) q2 (fun _ h=>h.2) (.slice Av (zcg subP f D r G (us.take i)).length cv)
   have q4:=Kd.R_far (p:=⟨g6,2,none⟩) q3 (fun _ h=>h.2) (.int .i64 (subP ka kb).1)
   have q5:=Kd.R_far (p:=⟨g6,3,none⟩) q4 (fun _ h=>h.2) (.int .i64 (zbu (errB subP f D r G 0 (us.take i)) (subP ka kb).2))
   exact⟨.slice An us.length cn,.slice Av (zcg subP f D r G (us.take i)).length cv,by rw[←HX.out],Kd.R_mono p5 (fun _ _=>trivial),kq62,(kq63 GEg6 GEg7)⟩
set_option maxHeartbeats 16000000 in
theorem zfO (A0:Option Addr) (c0:Nat) (f:List ByteArray) (A1:Option Addr) (c1:Nat) (D:List Int) (ka ea:Int) (B0:Option Addr) (d0:Nat) (r:List ByteArray) (B1:Option Addr) (d1:Nat) (G:List Int) (kb eb:Int) (w:World)
 (ab:Kd.C Kd.string w A0 f.length f) (hc0:f.length≤c0) (ac:Kd.C (Kd.int .i64) w A1 D.length D) (hc1:D.length≤c1) (ae:Kd.C Kd.string w B0 r.length r) (hd0:r.length≤d0) (af:Kd.C (Kd.int .i64) w B1 G.length G) (hd1:G.length≤d1)
 (hla:f.length≤100000) (hlb:r.length≤100000) (hle:f.length≤D.length) (hlf:r.length≤G.length) (he:ea=0) (hf:eb=0) :
 Calls Try.prog 82 #[.agg #[.slice A0 f.length c0,.slice A1 D.length c1,.int .i64 ka,.int .i64 ea],.agg #[.slice B0 r.length d0,.slice B1 G.length d1,.int .i64 kb,.int .i64 eb],.func (.func 121) #[] #[]] w fun e w'=>∃v0 v1:Value,e= .returned (.agg #[v0,v1,.int .i64 (addP ka kb).1,.int .i64 (zbu (errB addP f D r G 0 (zch f r).1) (addP ka kb).2)])∧Kd.R Kd.string 9 w' w.heap.size (fun _=>True) v0 (zch f r).1∧Kd.R (Kd.int .i64) 2 w' w.heap.size (fun _=>True) v1 (zcg addP f D r G (zch f r).1)∧Below w.heap.size w w':=by
 have al:=Try.underlying107
 subst he hf
 obtain⟨ku,hku⟩:=(zgI f r kq1 kq1).rounds
 have hul:=ze2 f r
 have HKU:=mk hku
 have HUL:=mk (show(zch f r).1.length≤200000 by omega)
 have HOA:=mk (fun s=>ziq f D ka 0 s kq1 hle)
 have HOB:=mk (fun s=>ziq r G kb 0 s kq1 hlf)
 have ag:=mk ab
 have ah:=mk hc0
 have am:=mk ac
 have an:=mk hc1
 have ai:=mk ae
 have HD0:=mk hd0
 have ao:=mk af
 have HD1:=mk hd1
 clear ab hc0 ac hc1 ae hd0 af hd1 hku hul hla hlb hle hlf
 generalize hus:zch f r=U at HKU HUL
 obtain⟨us,ue⟩:=U
 clear hus
 dsimp only at HKU HUL ⊢
 have HB:=mk (Below.refl w.heap.size w)
 go_enter Try.func82,Try.ntmps82
 go_wp2_with (first|((with_reducible refine zao (N:=3) rfl ?_);refine zal ?hg (N:=3) ?hd (cs:=#[.slice A0 f.length c0,.slice A1 D.length c1,.int .i64 ka,.int .i64 0]) (t:=107) ?hr ?_;(case hd=>rfl);(case hg=>rfl);(case hr=>exact kq21);intro g3 hg w3 hbox hb;have BKg3:=mk hbox;have GEg3:=mk (kq42:w.heap.size≤g3);replace HB:=mk (zaa kq43 hb);clear hb hbox hg;obtain⟨_,_,_,_,_,_,_,_⟩:=cz4_ BKg3.out)|((with_reducible refine zao (N:=4) rfl ?_);refine zal ?hg (N:=4) ?hd (cs:=#[.slice B0 r.length d0,.slice B1 G.length d1,.int .i64 kb,.int .i64 0]) (t:=107) ?hr ?_;(case hd=>rfl);(case hg=>rfl);(case hr=>exact kq21);intro g4 hg w4 hbox hb;have BKg4:=mk hbox;have GEg4:=mk (kq42:w.heap.size≤g4);have NBg3g4:=mk ((kq44 BKg3):g3≠g4);have NBg4g3:=mk ((kq46 BKg3):g4≠g3);replace BKg3:=(bc_ BKg3 hb (kq45 BKg3));replace HB:=mk (zaa kq43 hb);clear hb hbox hg;have ne_g3g4:=NBg3g4.out;have ne_g4g3:=NBg4g3.out;obtain⟨_,_,_,_,_,_,_,_⟩:=cz4_ BKg3.out;obtain⟨_,_,_,_,_,_,_,_⟩:=cz4_ BKg4.out)|((with_reducible refine zao (N:=6) rfl ?_);refine zal ?hg (N:=6) ?hd (cs:=#[.slice none 0 0,.slice none 0 0,.int .i64 0,.int .i64 0]) (t:=107) ?hr ?_;(case hd=>rfl);(case hg=>rfl);(case hr=>exact kq21);intro g6 hg w6 hbox hb;have BKg6:=mk hbox;have GEg6:=mk (kq42:w.heap.size≤g6);have NBg3g6:=mk ((kq47 BKg3 NBg3g4):g3≠g6);have NBg6g3:=mk ((kq49 BKg3 NBg3g4):g6≠g3);have NBg4g6:=mk ((kq47 BKg4 NBg4g3):g4≠g6);have NBg6g4:=mk ((kq49 BKg4 NBg4g3):g6≠g4);replace BKg3:=(bc_ BKg3 hb (kq48 BKg3 NBg3g4));replace BKg4:=(bc_ BKg4 hb (kq48 BKg4 NBg4g3));replace HB:=mk (zaa kq43 hb);clear hb hbox hg;have ne_g3g6:=NBg3g6.out;have ne_g6g3:=NBg6g3.out;have ne_g4g6:=NBg4g6.out;have ne_g6g4:=NBg6g4.out;obtain⟨_,_,_,_,_,_,_,_⟩:=cz4_ BKg3.out;obtain⟨_,_,_,_,_,_,_,_⟩:=cz4_ BKg4.out;obtain⟨_,_,_,_,_,_,_,_⟩:=cz4_ BKg6.out)|((with_reducible refine zao (N:=7) rfl ?_);refine zal ?hg (N:=7) ?hd (cs:=#[.slice none 0 0,.slice none 0 0,.int .i64 0,.int .i64 0]) (t:=107) ?hr ?_;(case hd=>rfl);(case hg=>rfl);(case hr=>exact kq21);intro g7 hg w7 hbox hb;have BKg7:=mk hbox;have GEg7:=mk (kq42:w.heap.size≤g7);have NBg3g7:=mk ((kq50 BKg3 NBg3g4 NBg3g6):g3≠g7);have NBg7g3:=mk ((kq52 BKg3 NBg3g4 NBg3g6):g7≠g3);have NBg4g7:=mk ((kq50 BKg4 NBg4g3 NBg4g6):g4≠g7);have NBg7g4:=mk ((kq52 BKg4 NBg4g3 NBg4g6):g7≠g4);have NBg6g7:=mk ((kq50 BKg6 NBg6g3 NBg6g4):g6≠g7);have NBg7g6:=mk ((kq52 BKg6 NBg6g3 NBg6g4):g7≠g6);replace BKg3:=(bc_ BKg3 hb (kq51 BKg3 NBg3g4 NBg3g6));replace BKg4:=(bc_ BKg4 hb (kq51 BKg4 NBg4g3 NBg4g6));replace BKg6:=(bc_ BKg6 hb (kq51 BKg6 NBg6g3 NBg6g4));replace HB:=mk (zaa kq43 hb);clear hb hbox hg;have ne_g3g7:=NBg3g7.out;have ne_g7g3:=NBg7g3.out;have ne_g4g7:=NBg4g7.out;have ne_g7g4:=NBg7g4.out;have ne_g6g7:=NBg6g7.out;have ne_g7g6:=NBg7g6.out;obtain⟨_,_,_,_,_,_,_,_⟩:=cz4_ BKg3.out;obtain⟨_,_,_,_,_,_,_,_⟩:=cz4_ BKg4.out;obtain⟨_,_,_,_,_,_,_,_⟩:=cz4_ BKg6.out;obtain⟨_,_,_,_,_,_,_,_⟩:=cz4_ BKg7.out)|((go_at_call 21;(with_reducible refine(za3.calls ku A0 c0 f B0 d0 r us ue _ ?s1 ah.out ?s3 HD0.out HKU.out).mono ?_);(case s1=>exact kq57 ag GEg7);(case s3=>exact kq57 ai GEg7);rintro e w8 ⟨vn,rfl,hn,hb⟩;obtain⟨An,cn,evn⟩:=Kd.R_slice hn;subst evn;have HN:=mk (Kd.R_lower hn (zad (kq53 GEg7)));replace BKg3:=(bc_ BKg3 hb (kq48 BKg3 NBg3g7));replace BKg4:=(bc_ BKg4 hb (kq48 BKg4 NBg4g7));replace BKg6:=(bc_ BKg6 hb (kq48 BKg6 NBg6g7));replace BKg7:=mk (zai (zak (zak (zak (zak BKg7.out 0 _ rfl) 1 _ rfl) 2 _ rfl) 3 _ rfl) hb);replace HB:=mk (zaa (kq53 GEg7) hb);clear hn hb;obtain⟨_,_,_,_,_,_,_,_⟩:=cz4_ BKg3.out;obtain⟨_,_,_,_,_,_,_,_⟩:=cz4_ BKg4.out;obtain⟨_,_,_,_,_,_,_,_⟩:=cz4_ BKg7.out)))
 go_loopg [33] us.length (fun gq ap wr=>∃(i:Nat) (vc:Value),ap= .int .i64 i∧Aside0 (i≤us.length)∧Aside0 (us.length-i≤gq)∧Aside0 (wr.heap[g7]?=some (.cells #[.slice An us.length cn,vc,.int .i64 0,.int .i64 (errB addP f D r G 0 (us.take i))] 107 (0,0)))∧Aside0 (Kd.R Kd.string 9 wr w.heap.size (fun _=>True) (.slice An us.length cn) us)∧Aside0 (Kd.R (Kd.int .i64) 2 wr w.heap.size (fun _=>True) vc (zcg addP f D r G (us.take i)))∧Aside0 (wr.heap[g3]?=some (.cells #[.slice A0 f.length c0,.slice A1 D.length c1,.int .i64 ka,.int .i64 0] 107 (0,0)))∧Aside0 (wr.heap[g4]?=some (.cells #[.slice B0 r.length d0,.slice B1 G.length d1,.int .i64 kb,.int .i64 0] 107 (0,0)))∧Aside0 (wr.heap[g6]?=some (.cells #[.slice none 0 0,.slice none 0 0,.int .i64 0,.int .i64 0] 107 (0,0)))∧Aside0 (Below w.heap.size w wr))
 case atStart=>exact⟨0,.slice none 0 0,rfl,⟨Nat.zero_le _⟩,⟨kq1⟩,⟨zak BKg7.out 0 _ rfl⟩,⟨Kd.R_set HN.out BKg7.out kq2 0 _⟩,⟨kq60⟩,⟨zaj BKg3.out ne_g3g7 _⟩,⟨zaj BKg4.out ne_g4g7 _⟩,⟨zaj BKg6.out ne_g6g7 _⟩,⟨zav HB.out GEg7.out⟩⟩
 case round=>
  clear BKg7 BKg3 BKg4 BKg6 HB HN
  obtain⟨i,vc,rfl,HI,HQ,BKg7,HN,HRc,BKg3,BKg4,BKg6,HB⟩:=hrel
  by_cases hi:i<us.length
  ·have hiz:(i:Int)<(us.length:Int):=by omega
   have aq:(0:Int)≤(i:Int):=by omega
   obtain⟨ad,ead,hx⟩:=Kd.at_string (Kd.R_reads' HN.out).2.2 (i:Int) aq hiz
   cases ead
   rw[Int.toNat_natCast,zcM hi]at hx
   have HE:=mk (zfN addP f D r G us 0 i hi)
   have HM:=mk (ze1 addP f D r G us i hi)
   have HLT:=mk (show(zcg addP f D r G (us.take i)).length≤200000 by have:=HUL.out;unfold zcg;rw[List.length_map,List.length_take];omega)
   generalize us[i]=s at hx HE HM
   obtain⟨kx,hkx⟩:=HOA.out s
   obtain⟨ky,hky⟩:=HOB.out s
   have HX:=mk hkx
   have HY:=mk hky
   clear hkx hky
   generalize hxa:ofS f D s=x at HX HE HM
   generalize hxb:ofS r G s=y at HY HE HM
   clear hxa hxb
   go_wp2
   refine zbv (n:=17) (S:=fun w'=>w'.cell? ⟨g3,0,none⟩=some (.slice A0 f.length c0)∧w'.cell? ⟨g3,1,none⟩=some (.slice A1 D.length c1)∧w'.cell? ⟨g3,2,none⟩=some (.int .i64 ka)∧w'.cell? ⟨g3,3,none⟩=some (.int .i64 0)∧w'.cell? ⟨g4,0,none⟩=some (.slice B0 r.length d0)∧w'.cell? ⟨g4,1,none⟩=some (.slice B1 G.length d1)∧w'.cell? ⟨g4,2,none⟩=some (.int .i64 kb)∧w'.cell? ⟨g4,3,none⟩=some (.int .i64 0)∧w'.cell? ⟨g7,1,none⟩=some vc) (ds:=[16]) #[false,false,false,false,false,false,false,false,false,false,false,false,false,false,false,false,false] kq0 rfl rfl ⟨bk_ BKg3 0,bk_ BKg3 1,bk_ BKg3 2,bk_ BKg3 3,bk_ BKg4 0,bk_ BKg4 1,bk_ BKg4 2,bk_ BKg4 3,bk_ BKg7 1⟩ (fun hHeld=>?_)
   replace BKg3:Aside0 (wr.drew.heap[g3]?=some (.cells #[.slice A0 f.length c0,.slice A1 D.length c1,.int .i64 ka,.int .i64 0] 107 (0,0))):=⟨BKg3.out⟩
   replace BKg4:Aside0 (wr.drew.heap[g4]?=some (.cells #[.slice B0 r.length d0,.slice B1 G.length d1,.int .i64 kb,.int .i64 0] 107 (0,0))):=⟨BKg4.out⟩
   replace BKg6:Aside0 (wr.drew.heap[g6]?=some (.cells #[.slice none 0 0,.slice none 0 0,.int .i64 0,.int .i64 0] 107 (0,0))):=⟨BKg6.out⟩
   replace BKg7:Aside0 (wr.drew.heap[g7]?=some (.cells #[.slice (some ad) us.length cn,vc,.int .i64 0,.int .i64 (errB addP f D r G 0 (us.take i))] 107 (0,0))):=⟨BKg7.out⟩
   replace HN:Aside0 (Kd.R Kd.string 9 wr.drew w.heap.size (fun _=>True) (.slice (some ad) us.length cn) us):=⟨HN.out⟩
   replace HRc:Aside0 (Kd.R (Kd.int .i64) 2 wr.drew w.heap.size (fun _=>True) vc (zcg addP f D r G (us.take i))):=⟨HRc.out⟩
   replace HB:Aside0 (Below w.heap.size w wr.drew):=⟨zaP HB.out⟩
   generalize wr.drew=w9 at BKg3 BKg4 BKg6 BKg7 HN HRc HB hHeld ⊢
   refine pu_ 0 37 ?_
   refine pu_ 2 39 ?_
   refine pu_ 4 41 ?_
   refine pu_ 7 44 ?_
   refine ta_ 1 38 hHeld ?_
   refine ta_ 3 40 hHeld ?_
   refine ta_ 6 43 hHeld ?_
   refine on_ 5 42 (fun K hK=>?_)
   refine zbj Try.func123 kq0 rfl #[.agg #[.slice A0 f.length c0,.slice A1 D.length c1,.int .i64 ka,.int .i64 0],.string s] (by rfl) rfl rfl kq54 ?_
   refine(zbT.calls kx A0 c0 f A1 c1 D ka 0 s x _ (Kd.C_below ag.out HB.out) ah.out (Kd.C_below am.out HB.out) an.out HX.out).mono ?_
   rintro e av ⟨rfl,hb⟩
   refine⟨_,rfl,?_⟩
   have I:=mk (zai BKg3.out hb)
   have J:=mk (zai BKg4.out hb)
   have L:=mk (zai BKg6.out hb)
   have M:=mk (zai BKg7.out hb)
   have X:=mk (Kd.R_below HN.out hb)
   have Y:=mk (Kd.R_below HRc.out hb)
   have Z:=mk (zaa HB.out hb)
   clear BKg3 BKg4 BKg6 BKg7 HN HRc HB
   have BKg3:=I
   have BKg4:=J
   have BKg6:=L
   have BKg7:=M
   have HN:=X
   have HRc:=Y
   have HB:=Z
   clear I J L M X Y Z
   clear hb
   refine hK.out _ _ ⟨bk_ BKg3 0,bk_ BKg3 1,bk_ BKg3 2,bk_ BKg3 3,bk_ BKg4 0,bk_ BKg4 1,bk_ BKg4 2,bk_ BKg4 3,bk_ BKg7 1⟩ (fun hHeld=>?_)
   clear hK K
   refine za2 (a':=?_) ?_ ?_
   rotate_left
   ·show Act.put _ (some 42) _=_
    simp only[Act.put,List.setIfInBounds_toArray,List.set_cons_zero,List.set_cons_succ]
    rfl
   refine on_ 8 45 (fun K hK=>?_)
   refine zbj Try.func123 kq0 rfl #[.agg #[.slice B0 r.length d0,.slice B1 G.length d1,.int .i64 kb,.int .i64 0],.string s] (by rfl) rfl rfl kq54 ?_
   refine(zbT.calls ky B0 d0 r B1 d1 G kb 0 s y _ (Kd.C_below ai.out HB.out) HD0.out (Kd.C_below ao.out HB.out) HD1.out HY.out).mono ?_
   rintro e ar ⟨rfl,hb⟩
   refine⟨_,rfl,?_⟩
   have I:=mk (zai BKg3.out hb)
   have J:=mk (zai BKg4.out hb)
   have L:=mk (zai BKg6.out hb)
   have M:=mk (zai BKg7.out hb)
   have X:=mk (Kd.R_below HN.out hb)
   have Y:=mk (Kd.R_below HRc.out hb)
   have Z:=mk (zaa HB.out hb)
   clear BKg3 BKg4 BKg6 BKg7 HN HRc HB
   have BKg3:=I
   have BKg4:=J
   have BKg6:=L
   have BKg7:=M
   have HN:=X
   have HRc:=Y
   have HB:=Z
   clear I J L M X Y Z
   clear hb
   refine hK.out _ _ ⟨bk_ BKg3 0,bk_ BKg3 1,bk_ BKg3 2,bk_ BKg3 3,bk_ BKg4 0,bk_ BKg4 1,bk_ BKg4 2,bk_ BKg4 3,bk_ BKg7 1⟩ (fun hHeld=>?_)
   clear hK K
   refine za2 (a':=?_) ?_ ?_
   rotate_left
   ·show Act.put _ (some 45) _=_
    simp only[Act.put,List.setIfInBounds_toArray,List.set_cons_zero,List.set_cons_succ]
    rfl
   refine on_ 9 46 (fun K hK=>?_)
   refine ziW 121 #[.int .i64 x,.int .i64 y] (by rfl) rfl (by have he:=zff Try.func121 kq0 rfl #[.int .i64 x,.int .i64 y] ar;unfold execOp;simp [resolve,Deferred.ofValue,invoke,Act.eval,he]) ?_
   refine(zcv.calls x y _ _ _ (zgC x y)).mono ?_
   rintro e aw ⟨rfl,hd⟩
   have hb:=hd.below
   clear hd
   refine⟨_,rfl,?_⟩
   have I:=mk (zai BKg3.out hb)
   have J:=mk (zai BKg4.out hb)
   have L:=mk (zai BKg6.out hb)
   have M:=mk (zai BKg7.out hb)
   have X:=mk (Kd.R_below HN.out hb)
   have Y:=mk (Kd.R_below HRc.out hb)
   have Z:=mk (zaa HB.out hb)
   clear BKg3 BKg4 BKg6 BKg7 HN HRc HB
   have BKg3:=I
   have BKg4:=J
   have BKg6:=L
   have BKg7:=M
   have HN:=X
   have HRc:=Y
   have HB:=Z
   clear I J L M X Y Z
   clear hb
   refine hK.out _ _ ⟨bk_ BKg3 0,bk_ BKg3 1,bk_ BKg3 2,bk_ BKg3 3,bk_ BKg4 0,bk_ BKg4 1,bk_ BKg4 2,bk_ BKg4 3,bk_ BKg7 1⟩ (fun hHeld=>?_)
   clear hK K
   refine za2 (a':=?_) ?_ ?_
   rotate_left
   ·show Act.put _ (some 46) _=_
    simp only[Act.put,List.setIfInBounds_toArray,List.set_cons_zero,List.set_cons_succ]
    rfl
   refine pu_ 10 47 ?_
   refine pu_ 11 48 ?_
   refine on_ 12 49 (fun K hK=>?_)
   refine zbj Try.func84 kq0 rfl #[.pointer (some ⟨g7,0,none⟩),.int .i64 (addP x y).1,.int .i64 (addP x y).2] (by rfl) rfl rfl kq54 ?_
   refine(zbZ g7 (.slice (some ad) us.length cn) vc 0 (errB addP f D r G 0 (us.take i)) (addP x y).1 (addP x y).2 w _ GEg7.out HB.out BKg7.out).mono ?_
   rintro e aj ⟨rfl,hg,hk,hb⟩
   refine⟨_,rfl,?_⟩
   have I:=mk (hk.blk BKg3.out ne_g3g7 (by simp))
   have J:=mk (hk.blk BKg4.out ne_g4g7 (by simp))
   have L:=mk (hk.blk BKg6.out ne_g6g7 (by simp))
   have M:=mk (Kd.R_mono (Kd.R_keep (Kd.R_types HN.out BKg7.out kq2) hk (fun _ h=>h.2)) (fun _ h=>h.1))
   have X:=mk (Kd.R_mono (Kd.R_keep (Kd.R_types HRc.out BKg7.out kq2) hk (fun _ h=>h.2)) (fun _ h=>h.1))
   have Y:=mk (hg)
   have Z:=mk (hb)
   clear BKg3 BKg4 BKg6 HN HRc BKg7 HB
   have BKg3:=I
   have BKg4:=J
   have BKg6:=L
   have HN:=M
   have HRc:=X
   have BKg7:=Y
   have HB:=Z
   clear I J L M X Y Z
   clear hg hk hb
   refine hK.out _ _ ⟨bk_ BKg3 0,bk_ BKg3 1,bk_ BKg3 2,bk_ BKg3 3,bk_ BKg4 0,bk_ BKg4 1,bk_ BKg4 2,bk_ BKg4 3,bk_ BKg7 1⟩ (fun hHeld=>?_)
   clear hK K
   refine za2 (a':=?_) ?_ ?_
   rotate_left
   ·show Act.put _ (some 49) _=_
    simp only[Act.put,List.setIfInBounds_toArray,List.set_cons_zero,List.set_cons_succ]
    rfl
   refine on_ 13 50 (fun K hK=>?_)
   refine zbU (v:=.slice (some ⟨aj.heap.size,0,none⟩) 1 1) (w1:=aj.alloc (.cells #[.int .i64 (addP x y).1] 2)) (by rfl) rfl ?_ ?_
   ·go_simp
    all_goals first|done|rfl|exact⟨rfl,rfl⟩
   refine hK.out _ _ ⟨(za1 (zab BKg3.out _) 0).trans rfl,(za1 (zab BKg3.out _) 1).trans rfl,(za1 (zab BKg3.out _) 2).trans rfl,(za1 (zab BKg3.out _) 3).trans rfl,(za1 (zab BKg4.out _) 0).trans rfl,(za1 (zab BKg4.out _) 1).trans rfl,(za1 (zab BKg4.out _) 2).trans rfl,(za1 (zab BKg4.out _) 3).trans rfl,(za1 (zab BKg7.out _) 1).trans rfl⟩ (fun hHeld=>?_)
   clear hK K
   refine za2 (a':=?_) ?_ ?_
   rotate_left
   ·show Act.put _ (some 50) _=_
    simp only[Act.put,List.setIfInBounds_toArray,List.set_cons_zero,List.set_cons_succ]
    rfl
   refine on_ 14 51 (fun K hK=>?_)
   refine Kd.R_append_step (Kd.int .i64) (w0:=w) w.heap.size (by rfl) (.tmp 38) (.tmp 50) 55 2 (.int .i64 0) 8 (by rfl) Try.underlying55 zgq rfl kq2 kq2 vc (zcg addP f D r G (us.take i)) (addP x y).1 [.int .i64 (addP x y).1] (fun _=>True) (fun _=>False) (by rfl) (by rfl) rfl (fun _ hk=>hk.elim) (fun _ _=>trivial) HRc.out HB.out (zad HB.out) (by have:=HLT.out;omega) ?_
   intro v8 au aa hb8 hg8 hat8
   obtain⟨A8,c8,ev8⟩:=Kd.R_slice aa
   subst ev8
   have I:=mk (zaJ BKg3.out hg8 (Kd.R_ne HRc.out BKg3.out kq2))
   have J:=mk (zaJ BKg4.out hg8 (Kd.R_ne HRc.out BKg4.out kq2))
   have L:=mk (zaJ BKg6.out hg8 (Kd.R_ne HRc.out BKg6.out kq2))
   have M:=mk (zaJ BKg7.out hg8 (Kd.R_ne HRc.out BKg7.out kq2))
   have X:=mk (Kd.R_over HN.out HRc.out kq2 hg8)
   have Y:=mk (aa)
   have Z:=mk (hb8)
   clear BKg3 BKg4 BKg6 BKg7 HN HRc HB
   have BKg3:=I
   have BKg4:=J
   have BKg6:=L
   have BKg7:=M
   have HN:=X
   have HRc:=Y
   have HB:=Z
   clear I J L M X Y Z
   clear aa hb8 hg8 hat8
   refine hK.out _ _ ⟨bk_ BKg3 0,bk_ BKg3 1,bk_ BKg3 2,bk_ BKg3 3,bk_ BKg4 0,bk_ BKg4 1,bk_ BKg4 2,bk_ BKg4 3,bk_ BKg7 1⟩ (fun hHeld=>?_)
   clear hK K
   refine za2 (a':=?_) ?_ ?_
   rotate_left
   ·show Act.put _ (some 51) _=_
    simp only[Act.put,List.setIfInBounds_toArray,List.set_cons_zero,List.set_cons_succ]
    rfl
   refine pu_ 15 52 ?_
   have ax:au.cell? ⟨g7,1,none⟩=some vc:=bk_ BKg7 1
   have ay:=zaD BKg7.out 1
   refine zb4 (i:=16) (N:=none) #[true,true,true,true,true,true,true,true,true,true,true,true,true,true,true,true,true] rfl rfl kq0 kq2 (fun K hK=>?_)
   refine zbO (w1:=?_) (by rfl) rfl ?_ ?_
   rotate_left
   ·go_simp
    rfl
   refine hK.out _ _ ?_
   clear hK K
   refine zbC kq0 ?_
   try go_wp2
   go_roundg (us.length-(i+1))
   case measure=>have:=HQ.out;omega
   case rel=>
    have ak:=HRc.out
    rw[List.length_append,List.length_singleton,←HM.out]at ak
    exact⟨i+1,.slice A8 ((zcg addP f D r G (us.take i)).length+1) c8,kq61,⟨kq1⟩,⟨kq1⟩,⟨by rw[HE.out];exact zak BKg7.out 1 _ rfl⟩,⟨Kd.R_set HN.out BKg7.out kq2 1 _⟩,⟨Kd.R_set ak BKg7.out kq2 1 _⟩,⟨zaj BKg3.out ne_g3g7 _⟩,⟨zaj BKg4.out ne_g4g7 _⟩,⟨zaj BKg6.out ne_g6g7 _⟩,⟨zav HB.out GEg7.out⟩⟩
  ·have hiz:¬(i:Int)<(us.length:Int):=by omega
   have hil:i=us.length:=by have:=HI.out;omega
   have HX:=mk (show errB addP f D r G 0 (us.take i)=errB addP f D r G 0 us by rw[hil,List.take_length])
   have HY:=mk (show zcg addP f D r G (us.take i)=zcg addP f D r G us by rw[hil,List.take_length])
   clear hil hi
   obtain⟨Av,cv,ev⟩:=Kd.R_slice HRc.out
   subst ev
   obtain⟨_,_,_,_,_,_,_,_⟩:=cz4_ BKg3.out
   obtain⟨_,_,_,_,_,_,_,_⟩:=cz4_ BKg4.out
   obtain⟨_,_,_,_,_,_,_,_⟩:=cz4_ BKg6.out
   obtain⟨_,_,_,_,_,_,_,_⟩:=cz4_ BKg7.out
   go_wp2_with (first|((go_at_call 121;(with_reducible refine(zcv.calls ka kb _ _ _ (zgC ka kb)).mono ?_);rintro e az ⟨rfl,hd⟩;have hb:=hd.below;clear hd;replace BKg3:=(bc_ BKg3 hb (kq45 BKg3));replace BKg4:=(bc_ BKg4 hb (kq45 BKg4));replace BKg6:=(bc_ BKg6 hb (kq45 BKg6));replace BKg7:=(bc_ BKg7 hb (kq45 BKg7));replace HN:=mk (Kd.R_below kq55 hb);replace HRc:=mk (Kd.R_below (kq56 HRc) hb);replace HB:=mk (zaa kq43 hb);clear hb;obtain⟨_,_,_,_,_,_,_,_⟩:=cz4_ BKg6.out;obtain⟨_,_,_,_,_,_,_,_⟩:=cz4_ BKg7.out))|((go_at_call 84;(with_reducible refine(zbZ g7 (.slice An us.length cn) (.slice Av (zcg addP f D r G (us.take i)).length cv) 0 (errB addP f D r G 0 (us.take i)) (addP ka kb).1 (addP ka kb).2 w _ GEg7.out ?s1 ?s2).mono ?_);(case s1=>exact kq58);(case s2=>exact kq59 BKg7);rintro e aA ⟨rfl,hg,hk,hb⟩;replace BKg6:=mk (hk.blk (kq45 BKg6) ne_g6g7 (by simp));replace HN:=mk (Kd.R_mono (Kd.R_keep (Kd.R_types kq55 (kq45 BKg7) kq2) hk (fun _ h=>h.2)) (fun _ h=>h.1));replace HRc:=mk (Kd.R_mono (Kd.R_keep (Kd.R_types (kq56 HRc) (kq45 BKg7) kq2) hk (fun _ h=>h.2)) (fun _ h=>h.1));replace BKg7:=mk (hg);replace HB:=mk (hb);clear hg hk hb;obtain⟨_,_,_,_,_,_,_,_⟩:=cz4_ BKg6.out;obtain⟨_,_,_,_,_,_,_,_⟩:=cz4_ BKg7.out)))
   refine bodyPost_ret (results_cell_row rfl _ _ g6 107 #[.slice An us.length cn,.slice Av (zcg addP f D r G (us.take i)).length cv,.int .i64 (addP ka kb).1,.int .i64 (zbu (errB addP f D r G 0 (us.take i)) (addP ka kb).2)] (0,0) _ rfl (zak (zak (zak (zak (zaj BKg6.out ne_g6g7 _) 0 _ rfl) 1 _ rfl) 2 _ rfl) 3 _ rfl) Try.underlying107 rfl kq0) rfl ?_
   have p0:=Kd.R_types (Kd.R_types HN.out BKg7.out kq2) BKg6.out kq2
   have p1:=Kd.R_far (p:=⟨g7,2,none⟩) p0 (fun _ h=>h.1.2) (.int .i64 (addP ka kb).1)
   have p2:=Kd.R_far (p:=⟨g6,0,none⟩) p1 (fun _ h=>h.2) (.slice An us.length cn)
   have p3:=Kd.R_far (p:=⟨g6,1,none⟩) p2 (fun _ h=>h.2) (.slice Av (zcg addP f D r G (us.take i)).length cv)
   have p4:=Kd.R_far (p:=⟨g6,2,none⟩) p3 (fun _ h=>h.2) (.int .i64 (addP ka kb).1)
   have p5:=Kd.R_far (p:=⟨g6,3,none⟩) p4 (fun _ h=>h.2) (.int .i64 (zbu (errB addP f D r G 0 (us.take i)) (addP ka kb).2))
   have q0:=Kd.R_types (Kd.R_types HRc.out BKg7.out kq2) BKg6.out kq2
   have q1:=Kd.R_far (p:=⟨g7,2,none⟩) q0 (fun _ h=>h.1.2) (.int .i64 (addP ka kb).1)
   have q2:=Kd.R_far (p:=⟨g6,0,none⟩) q1 (fun _ h=>h.2) (.slice An us.length cn)
   have q3:=Kd.R_far (p:=⟨g6,1,none⟩) q2 (fun _ h=>h.2) (.slice Av (zcg addP f D r G (us.take i)).length cv)
   have q4:=Kd.R_far (p:=⟨g6,2,none⟩) q3 (fun _ h=>h.2) (.int .i64 (addP ka kb).1)
   have q5:=Kd.R_far (p:=⟨g6,3,none⟩) q4 (fun _ h=>h.2) (.int .i64 (zbu (errB addP f D r G 0 (us.take i)) (addP ka kb).2))
   exact⟨.slice An us.length cn,.slice Av (zcg addP f D r G (us.take i)).length cv,by rw[←HX.out],Kd.R_mono p5 (fun _ _=>trivial),kq62,(kq63 GEg6 GEg7)⟩
set_option maxHeartbeats 8000000 in
theorem zd4 (G:Option Addr) (I:Nat) (J:List ByteArray) (L:Option Addr) (M:Nat) (U:List Int) (ka ea:Int) (B0:Option Addr) (Y:Nat) (Z:List ByteArray) (B1:Option Addr) (d1:Nat) (m1:List Int) (kb eb:Int) (fv:Value) (w:World) (he:ea≠0) :
 Calls Try.prog 82 #[.agg #[.slice G J.length I,.slice L U.length M,.int .i64 ka,.int .i64 ea],.agg #[.slice B0 Z.length Y,.slice B1 m1.length d1,.int .i64 kb,.int .i64 eb],fv] w fun e w'=>e= .returned (.agg #[.slice G J.length I,.slice L U.length M,.int .i64 ka,.int .i64 ea])∧Below w.heap.size w w':=by
 have X:=Try.underlying107
 have he0:(ea != 0)=true:=bne_iff_ne.mpr he
 have he1:(ea==0)=false:=beq_eq_false_iff_ne.mpr he
 clear he
 have HB:=mk (Below.refl w.heap.size w)
 go_enter Try.func82,Try.ntmps82
 go_wp2_with (first|((with_reducible refine zao (N:=3) rfl ?_);refine zal ?hg (N:=3) ?hd (cs:=#[.slice G J.length I,.slice L U.length M,.int .i64 ka,.int .i64 ea]) (t:=107) ?hr ?_;(case hd=>rfl);(case hg=>rfl);(case hr=>exact kq21);intro r hg w3 hbox hb;have BKg3:=mk hbox;have GEg3:=mk (kq42:w.heap.size≤r);replace HB:=mk (zaa kq43 hb);clear hb hbox hg;obtain⟨_,_,_,_,_,_,_,_⟩:=cz4_ BKg3.out)|((with_reducible refine zao (N:=4) rfl ?_);refine zal ?hg (N:=4) ?hd (cs:=#[.slice B0 Z.length Y,.slice B1 m1.length d1,.int .i64 kb,.int .i64 eb]) (t:=107) ?hr ?_;(case hd=>rfl);(case hg=>rfl);(case hr=>exact kq21);intro D hg w4 hbox hb;have BKg4:=mk hbox;have GEg4:=mk (kq42:w.heap.size≤D);have NBg3g4:=mk ((kq44 BKg3):r≠D);have NBg4g3:=mk ((kq46 BKg3):D≠r);replace BKg3:=(bc_ BKg3 hb (kq45 BKg3));replace HB:=mk (zaa kq43 hb);clear hb hbox hg;have ne_g3g4:=NBg3g4.out;have ne_g4g3:=NBg4g3.out;obtain⟨_,_,_,_,_,_,_,_⟩:=cz4_ BKg3.out;obtain⟨_,_,_,_,_,_,_,_⟩:=cz4_ BKg4.out)|((with_reducible refine zao (N:=6) rfl ?_);refine zal ?hg (N:=6) ?hd (cs:=#[.slice none 0 0,.slice none 0 0,.int .i64 0,.int .i64 0]) (t:=107) ?hr ?_;(case hd=>rfl);(case hg=>rfl);(case hr=>exact kq21);intro f hg w6 hbox hb;have BKg6:=mk hbox;have GEg6:=mk (kq42:w.heap.size≤f);have NBg3g6:=mk ((kq47 BKg3 NBg3g4):r≠f);have NBg6g3:=mk ((kq49 BKg3 NBg3g4):f≠r);have NBg4g6:=mk ((kq47 BKg4 NBg4g3):D≠f);have NBg6g4:=mk ((kq49 BKg4 NBg4g3):f≠D);replace BKg3:=(bc_ BKg3 hb (kq48 BKg3 NBg3g4));replace BKg4:=(bc_ BKg4 hb (kq48 BKg4 NBg4g3));replace HB:=mk (zaa kq43 hb);clear hb hbox hg;have ne_g3g6:=NBg3g6.out;have ne_g6g3:=NBg6g3.out;have ne_g4g6:=NBg4g6.out;have ne_g6g4:=NBg6g4.out;obtain⟨_,_,_,_,_,_,_,_⟩:=cz4_ BKg3.out;obtain⟨_,_,_,_,_,_,_,_⟩:=cz4_ BKg4.out;obtain⟨_,_,_,_,_,_,_,_⟩:=cz4_ BKg6.out))
 refine bodyPost_ret (results_cell_row rfl _ _ f 107 #[.slice G J.length I,.slice L U.length M,.int .i64 ka,.int .i64 ea] (0,0) _ rfl (zak (zak (zak (zak BKg6.out 0 _ rfl) 1 _ rfl) 2 _ rfl) 3 _ rfl) Try.underlying107 rfl kq0) rfl ?_
 exact⟨rfl,by repeat(first|exact HB.out|refine zav ?_ GEg6.out)⟩
set_option maxHeartbeats 8000000 in
theorem zd5 (U:Option Addr) (X:Nat) (Y:List ByteArray) (Z:Option Addr) (c1:Nat) (l1:List Int) (ka:Int) (B0:Option Addr) (G:Nat) (I:List ByteArray) (B1:Option Addr) (J:Nat) (L:List Int) (kb eb:Int) (fv:Value) (w:World) (he:eb≠0) :
 Calls Try.prog 82 #[.agg #[.slice U Y.length X,.slice Z l1.length c1,.int .i64 ka,.int .i64 0],.agg #[.slice B0 I.length G,.slice B1 L.length J,.int .i64 kb,.int .i64 eb],fv] w fun e w'=>e= .returned (.agg #[.slice B0 I.length G,.slice B1 L.length J,.int .i64 kb,.int .i64 eb])∧Below w.heap.size w w':=by
 have M:=Try.underlying107
 have he0:(eb != 0)=true:=bne_iff_ne.mpr he
 have he1:(eb==0)=false:=beq_eq_false_iff_ne.mpr he
 clear he
 have HB:=mk (Below.refl w.heap.size w)
 go_enter Try.func82,Try.ntmps82
 go_wp2_with (first|((with_reducible refine zao (N:=3) rfl ?_);refine zal ?hg (N:=3) ?hd (cs:=#[.slice U Y.length X,.slice Z l1.length c1,.int .i64 ka,.int .i64 0]) (t:=107) ?hr ?_;(case hd=>rfl);(case hg=>rfl);(case hr=>exact kq21);intro r hg w3 hbox hb;have BKg3:=mk hbox;have GEg3:=mk (kq42:w.heap.size≤r);replace HB:=mk (zaa kq43 hb);clear hb hbox hg;obtain⟨_,_,_,_,_,_,_,_⟩:=cz4_ BKg3.out)|((with_reducible refine zao (N:=4) rfl ?_);refine zal ?hg (N:=4) ?hd (cs:=#[.slice B0 I.length G,.slice B1 L.length J,.int .i64 kb,.int .i64 eb]) (t:=107) ?hr ?_;(case hd=>rfl);(case hg=>rfl);(case hr=>exact kq21);intro D hg w4 hbox hb;have BKg4:=mk hbox;have GEg4:=mk (kq42:w.heap.size≤D);have NBg3g4:=mk ((kq44 BKg3):r≠D);have NBg4g3:=mk ((kq46 BKg3):D≠r);replace BKg3:=(bc_ BKg3 hb (kq45 BKg3));replace HB:=mk (zaa kq43 hb);clear hb hbox hg;have ne_g3g4:=NBg3g4.out;have ne_g4g3:=NBg4g3.out;obtain⟨_,_,_,_,_,_,_,_⟩:=cz4_ BKg3.out;obtain⟨_,_,_,_,_,_,_,_⟩:=cz4_ BKg4.out)|((with_reducible refine zao (N:=6) rfl ?_);refine zal ?hg (N:=6) ?hd (cs:=#[.slice none 0 0,.slice none 0 0,.int .i64 0,.int .i64 0]) (t:=107) ?hr ?_;(case hd=>rfl);(case hg=>rfl);(case hr=>exact kq21);intro f hg w6 hbox hb;have BKg6:=mk hbox;have GEg6:=mk (kq42:w.heap.size≤f);have NBg3g6:=mk ((kq47 BKg3 NBg3g4):r≠f);have NBg6g3:=mk ((kq49 BKg3 NBg3g4):f≠r);have NBg4g6:=mk ((kq47 BKg4 NBg4g3):D≠f);have NBg6g4:=mk ((kq49 BKg4 NBg4g3):f≠D);replace BKg3:=(bc_ BKg3 hb (kq48 BKg3 NBg3g4));replace BKg4:=(bc_ BKg4 hb (kq48 BKg4 NBg4g3));replace HB:=mk (zaa kq43 hb);clear hb hbox hg;have ne_g3g6:=NBg3g6.out;have ne_g6g3:=NBg6g3.out;have ne_g4g6:=NBg4g6.out;have ne_g6g4:=NBg6g4.out;obtain⟨_,_,_,_,_,_,_,_⟩:=cz4_ BKg3.out;obtain⟨_,_,_,_,_,_,_,_⟩:=cz4_ BKg4.out;obtain⟨_,_,_,_,_,_,_,_⟩:=cz4_ BKg6.out))
 refine bodyPost_ret (results_cell_row rfl _ _ f 107 #[.slice B0 I.length G,.slice B1 L.length J,.int .i64 kb,.int .i64 eb] (0,0) _ rfl (zak (zak (zak (zak BKg6.out 0 _ rfl) 1 _ rfl) 2 _ rfl) 3 _ rfl) Try.underlying107 rfl kq0) rfl ?_
 exact⟨rfl,by repeat(first|exact HB.out|refine zav ?_ GEg6.out)⟩
def zbc.f (l0:List ByteArray) (l1:List Int) (ka ea:Int) (m0:List ByteArray) (m1:List Int) (kb eb op:Int):Option (List ByteArray × List Int × Int × Int):=
 if ea≠0 then some (l0,l1,ka,ea)else if eb≠0 then some (m0,m1,kb,eb)else if l0.length≤100000∧m0.length≤100000∧l0.length≤l1.length∧m0.length≤m1.length then
  (if op=1 then some ((zch l0 m0).1,zcg subP l0 l1 m0 m1 (zch l0 m0).1,(subP ka kb).1,zbu (errB subP l0 l1 m0 m1 0 (zch l0 m0).1) (subP ka kb).2)else if op=0 then some ((zch l0 m0).1,zcg addP l0 l1 m0 m1 (zch l0 m0).1,(addP ka kb).1,zbu (errB addP l0 l1 m0 m1 0 (zch l0 m0).1) (addP ka kb).2)else none)else none
theorem zbc.calls1 (P0_0_:Nat→Prop) (r:Value) (l0_0:List ByteArray) (P0_1_:Nat→Prop) (D:Value) (l0_1:List Int) (a0_2 a0_3:Int) (P1_0_:Nat→Prop) (G:Value) (l1_0:List ByteArray) (P1_1_:Nat→Prop) (I:Value) (l1_1:List Int) (a1_2 a1_3:Int) (r1:List ByteArray) (r2:List Int) (r3 r4:Int) (w0 w:World) (hB:Below w0.heap.size w0 w) (ho0_0:Kd.R Kd.string 9 w w0.heap.size P0_0_ r l0_0) (_hp0_0_1_0:∀k_,P0_0_ k_→¬P1_0_ k_) (ho0_1:Kd.R (Kd.int .i64) 2 w w0.heap.size P0_1_ D l0_1) (_hp0_1_1_1:∀k_,P0_1_ k_→¬P1_1_ k_) (ho1_0:Kd.R Kd.string 9 w w0.heap.size P1_0_ G l1_0) (_hp1_0_0_0:∀k_,P1_0_ k_→¬P0_0_ k_) (ho1_1:Kd.R (Kd.int .i64) 2 w w0.heap.size P1_1_ I l1_1) (_hp1_1_0_1:∀k_,P1_1_ k_→¬P0_1_ k_) (h:zbc.f l0_0 l0_1 a0_2 a0_3 l1_0 l1_1 a1_2 a1_3 1=some (r1,r2,r3,r4)) :
 Calls Try.prog 82 #[.agg #[r,D,.int .i64 a0_2,.int .i64 a0_3],.agg #[G,I,.int .i64 a1_2,.int .i64 a1_3],.func (.func 83) #[] #[]] w fun e w'=>∃J L:Value,e= .returned (.agg #[J,L,.int .i64 r3,.int .i64 r4])∧Kd.R Kd.string 9 w' w0.heap.size (fun k_=>((P0_0_ k_∨P0_1_ k_∨P1_0_ k_∨P1_1_ k_)∨w.heap.size≤k_)) J r1∧Kd.R (Kd.int .i64) 2 w' w0.heap.size (fun k_=>((P0_0_ k_∨P0_1_ k_∨P1_0_ k_∨P1_1_ k_)∨w.heap.size≤k_)) L r2∧Below w0.heap.size w0 w'∧Kept w w' (fun k_=>P0_0_ k_∨P0_1_ k_∨P1_0_ k_∨P1_1_ k_):=by
 obtain⟨M,U,rfl⟩:=Kd.R_slice ho0_0
 obtain⟨X,Y,rfl⟩:=Kd.R_slice ho0_1
 obtain⟨B0,Z,rfl⟩:=Kd.R_slice ho1_0
 obtain⟨B1,d1,rfl⟩:=Kd.R_slice ho1_1
 have kept:∀w',Below w.heap.size w w'→Below w0.heap.size w0 w'∧Kept w w' (fun k_=>P0_0_ k_∨P0_1_ k_∨P1_0_ k_∨P1_1_ k_):=fun w' hb=>⟨zaa hB hb,hb.size,fun i hi _=>hb.block i hi⟩
 unfold zbc.f at h
 by_cases ha:a0_3=0
 ·rw[if_neg (by simp [ha])]at h
  by_cases hb:a1_3=0
  ·rw[if_neg (by simp [hb])]at h
   split at h
   ·rename_i hl
    simp only[if_true,Option.some.injEq,Prod.mk.injEq]at h
    obtain⟨rfl,rfl,rfl,rfl⟩:=h
    refine(zeh M U l0_0 X Y l0_1 a0_2 a0_3 B0 Z l1_0 B1 d1 l1_1 a1_2 a1_3 w (Kd.R_reads' ho0_0).2.2 (Kd.R_reads' ho0_0).2.1 (Kd.R_reads' ho0_1).2.2 (Kd.R_reads' ho0_1).2.1 (Kd.R_reads' ho1_0).2.2 (Kd.R_reads' ho1_0).2.1 (Kd.R_reads' ho1_1).2.2 (Kd.R_reads' ho1_1).2.1 hl.1 hl.2.1 hl.2.2.1 hl.2.2.2 ha hb).mono ?_
    rintro e w' ⟨v0,v1,rfl,h0,h1,hw⟩
    exact⟨v0,v1,rfl,Kd.R_lower (Kd.R_mono (Kd.R_bound h0) (fun k hk=>.inr hk.2.1)) hB.size,Kd.R_lower (Kd.R_mono (Kd.R_bound h1) (fun k hk=>.inr hk.2.1)) hB.size,kept w' hw⟩
   ·cases h
  ·rw[if_pos (by simpa using hb)]at h
   simp only[Option.some.injEq,Prod.mk.injEq]at h
   obtain⟨rfl,rfl,rfl,rfl⟩:=h
   subst ha
   refine(zd5 M U l0_0 X Y l0_1 a0_2 B0 Z l1_0 B1 d1 l1_1 a1_2 a1_3 _ w hb).mono ?_
   rintro e w' ⟨rfl,hw⟩
   exact⟨_,_,rfl,Kd.R_mono (Kd.R_below ho1_0 hw) (fun k hk=>.inl (.inr (.inr (.inl hk)))),Kd.R_mono (Kd.R_below ho1_1 hw) (fun k hk=>.inl (.inr (.inr (.inr hk)))),kept w' hw⟩
 ·rw[if_pos (by simpa using ha)]at h
  simp only[Option.some.injEq,Prod.mk.injEq]at h
  obtain⟨rfl,rfl,rfl,rfl⟩:=h
  refine(zd4 M U l0_0 X Y l0_1 a0_2 a0_3 B0 Z l1_0 B1 d1 l1_1 a1_2 a1_3 _ w ha).mono ?_
  rintro e w' ⟨rfl,hw⟩
  exact⟨_,_,rfl,Kd.R_mono (Kd.R_below ho0_0 hw) (fun k hk=>.inl (.inl hk)),Kd.R_mono (Kd.R_below ho0_1 hw) (fun k hk=>.inl (.inr (.inl hk))),kept w' hw⟩
theorem zbc.calls0 (P0_0_:Nat→Prop) (r:Value) (l0_0:List ByteArray) (P0_1_:Nat→Prop) (D:Value) (l0_1:List Int) (a0_2 a0_3:Int) (P1_0_:Nat→Prop) (G:Value) (l1_0:List ByteArray) (P1_1_:Nat→Prop) (I:Value) (l1_1:List Int) (a1_2 a1_3:Int) (r1:List ByteArray) (r2:List Int) (r3 r4:Int) (w0 w:World) (hB:Below w0.heap.size w0 w) (ho0_0:Kd.R Kd.string 9 w w0.heap.size P0_0_ r l0_0) (_hp0_0_1_0:∀k_,P0_0_ k_→¬P1_0_ k_) (ho0_1:Kd.R (Kd.int .i64) 2 w w0.heap.size P0_1_ D l0_1) (_hp0_1_1_1:∀k_,P0_1_ k_→¬P1_1_ k_) (ho1_0:Kd.R Kd.string 9 w w0.heap.size P1_0_ G l1_0) (_hp1_0_0_0:∀k_,P1_0_ k_→¬P0_0_ k_) (ho1_1:Kd.R (Kd.int .i64) 2 w w0.heap.size P1_1_ I l1_1) (_hp1_1_0_1:∀k_,P1_1_ k_→¬P0_1_ k_) (h:zbc.f l0_0 l0_1 a0_2 a0_3 l1_0 l1_1 a1_2 a1_3 0=some (r1,r2,r3,r4)) :
 Calls Try.prog 82 #[.agg #[r,D,.int .i64 a0_2,.int .i64 a0_3],.agg #[G,I,.int .i64 a1_2,.int .i64 a1_3],.func (.func 121) #[] #[]] w fun e w'=>∃J L:Value,e= .returned (.agg #[J,L,.int .i64 r3,.int .i64 r4])∧Kd.R Kd.string 9 w' w0.heap.size (fun k_=>((P0_0_ k_∨P0_1_ k_∨P1_0_ k_∨P1_1_ k_)∨w.heap.size≤k_)) J r1∧Kd.R (Kd.int .i64) 2 w' w0.heap.size (fun k_=>((P0_0_ k_∨P0_1_ k_∨P1_0_ k_∨P1_1_ k_)∨w.heap.size≤k_)) L r2∧Below w0.heap.size w0 w'∧Kept w w' (fun k_=>P0_0_ k_∨P0_1_ k_∨P1_0_ k_∨P1_1_ k_):=by
 obtain⟨M,U,rfl⟩:=Kd.R_slice ho0_0
 obtain⟨X,Y,rfl⟩:=Kd.R_slice ho0_1
 obtain⟨B0,Z,rfl⟩:=Kd.R_slice ho1_0
 obtain⟨B1,d1,rfl⟩:=Kd.R_slice ho1_1
 have kept:∀w',Below w.heap.size w w'→Below w0.heap.size w0 w'∧Kept w w' (fun k_=>P0_0_ k_∨P0_1_ k_∨P1_0_ k_∨P1_1_ k_):=fun w' hb=>⟨zaa hB hb,hb.size,fun i hi _=>hb.block i hi⟩
 unfold zbc.f at h
 by_cases ha:a0_3=0
 ·rw[if_neg (by simp [ha])]at h
  by_cases hb:a1_3=0
  ·rw[if_neg (by simp [hb])]at h
   split at h
   ·rename_i hl
    simp only[if_true,show ¬(0:Int)=1 by decide,if_false,Option.some.injEq,Prod.mk.injEq]at h
    obtain⟨rfl,rfl,rfl,rfl⟩:=h
    refine(zfO M U l0_0 X Y l0_1 a0_2 a0_3 B0 Z l1_0 B1 d1 l1_1 a1_2 a1_3 w (Kd.R_reads' ho0_0).2.2 (Kd.R_reads' ho0_0).2.1 (Kd.R_reads' ho0_1).2.2 (Kd.R_reads' ho0_1).2.1 (Kd.R_reads' ho1_0).2.2 (Kd.R_reads' ho1_0).2.1 (Kd.R_reads' ho1_1).2.2 (Kd.R_reads' ho1_1).2.1 hl.1 hl.2.1 hl.2.2.1 hl.2.2.2 ha hb).mono ?_
    rintro e w' ⟨v0,v1,rfl,h0,h1,hw⟩
    exact⟨v0,v1,rfl,Kd.R_lower (Kd.R_mono (Kd.R_bound h0) (fun k hk=>.inr hk.2.1)) hB.size,Kd.R_lower (Kd.R_mono (Kd.R_bound h1) (fun k hk=>.inr hk.2.1)) hB.size,kept w' hw⟩
   ·cases h
  ·rw[if_pos (by simpa using hb)]at h
   simp only[Option.some.injEq,Prod.mk.injEq]at h
   obtain⟨rfl,rfl,rfl,rfl⟩:=h
   subst ha
   refine(zd5 M U l0_0 X Y l0_1 a0_2 B0 Z l1_0 B1 d1 l1_1 a1_2 a1_3 _ w hb).mono ?_
   rintro e w' ⟨rfl,hw⟩
   exact⟨_,_,rfl,Kd.R_mono (Kd.R_below ho1_0 hw) (fun k hk=>.inl (.inr (.inr (.inl hk)))),Kd.R_mono (Kd.R_below ho1_1 hw) (fun k hk=>.inl (.inr (.inr (.inr hk)))),kept w' hw⟩
 ·rw[if_pos (by simpa using ha)]at h
  simp only[Option.some.injEq,Prod.mk.injEq]at h
  obtain⟨rfl,rfl,rfl,rfl⟩:=h
  refine(zd4 M U l0_0 X Y l0_1 a0_2 a0_3 B0 Z l1_0 B1 d1 l1_1 a1_2 a1_3 _ w ha).mono ?_
  rintro e w' ⟨rfl,hw⟩
  exact⟨_,_,rfl,Kd.R_mono (Kd.R_below ho0_0 hw) (fun k hk=>.inl (.inl hk)),Kd.R_mono (Kd.R_below ho0_1 hw) (fun k hk=>.inl (.inr (.inl hk))),kept w' hw⟩
end Go.Proofs.Ytjknpmibdkoklaa.Q
