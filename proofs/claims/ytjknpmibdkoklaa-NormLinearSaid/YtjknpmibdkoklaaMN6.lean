/- Functions of the given program as Lean functions, each with its contract, and what they answer; words for it. No condition but those of each. -/
import Derived.Test.YtjknpmibdkoklaaMNS
import Derived.Test.YtjknpmibdkoklaaMN3
import Derived.Test.YtjknpmibdkoklaaMN4
set_option linter.unusedVariables false
set_option linter.unusedSimpArgs false
namespace Go.Proofs.Ytjknpmibdkoklaa.Q
open Go.RowKit Go.Proofs.YtjknpmibdkoklaaW.PrintWords Go.Proofs.YtjknpmibdkoklaaW.PrintLast Go.Proofs.YtjknpmibdkoklaaW.PrintMore
open Aside0 (mk)
open List (setIfInBounds_toArray set_cons_zero set_cons_succ)
attribute [local go_sem] zbw zbz zbP zbQ zbm zbn zbA zbB
set_option linter.unusedVariables false
set_option linter.unusedSimpArgs false
attribute [local go_sem] zbS zbD zbE zbF
mutual
def zaw.j0:Nat→Bool→Int→ByteArray→Int→List (S66)→List (S39)→Option (Bool)
 |0,_,_,_,_,_,_=>none
 |k+1,x3,x105000,x105001,x105002,x105003,x105004=>if x105000=0 then(zaw.j1 k x3 (x105003.length:Int) (x105004.length:Int) true x105000 x105001 x105002 x105003 x105004)else(zaw.j1 k x3 (x105003.length:Int) (x105004.length:Int) (x105000==1) x105000 x105001 x105002 x105003 x105004)
def zaw.j1:Nat→Bool→Int→Int→Bool→Int→ByteArray→Int→List (S66)→List (S39)→Option (Bool)
 |0,_,_,_,_,_,_,_,_,_=>none
 |k+1,x3,x4,x5,x20,x105000,x105001,x105002,x105003,x105004=>if x20=true then(if x3=true then(if x4=0 then(some (x5==0))else(some false))else(some false))else(if x105000=2 then(if x3=true then(if x4=0 then(some (x5==1))else(some false))else(some false))else(if x105000≥3 then(zaw.j2 k x3 x4 x5 (decide (x105000≤6)) x105000 x105001 x105002 x105003 x105004)else(zaw.j2 k x3 x4 x5 false x105000 x105001 x105002 x105003 x105004)))
def zaw.j2:Nat→Bool→Int→Int→Bool→Int→ByteArray→Int→List (S66)→List (S39)→Option (Bool)
 |0,_,_,_,_,_,_,_,_,_=>none
 |k+1,x3,x4,x5,x51,x105000,x105001,x105002,x105003,x105004=>if x51=true then(if x3=true then(if x4=0 then(some (x5==2))else(some false))else(some false))else(if x105000=7 then(zaw.j3 k x3 x4 x5 true x105000 x105001 x105002 x105003 x105004)else(zaw.j3 k x3 x4 x5 (x105000==8) x105000 x105001 x105002 x105003 x105004))
def zaw.j3:Nat→Bool→Int→Int→Bool→Int→ByteArray→Int→List (S66)→List (S39)→Option (Bool)
 |0,_,_,_,_,_,_,_,_,_=>none
 |k+1,x3,x4,x5,x69,x105000,x105001,x105002,x105003,x105004=>if x69=true then((za5.f x105001).bind fun t105=>(if t105=true then(if x105002=0 then(if x4=0 then(some (x5==1))else(some false))else(some false))else(some false)))else(if x105000≥9 then(zaw.j4 k x3 x4 x5 (decide (x105000≤14)) x105000 x105001 x105002 x105003 x105004)else(zaw.j4 k x3 x4 x5 false x105000 x105001 x105002 x105003 x105004))
def zaw.j4:Nat→Bool→Int→Int→Bool→Int→ByteArray→Int→List (S66)→List (S39)→Option (Bool)
 |0,_,_,_,_,_,_,_,_,_=>none
 |k+1,x3,x4,x5,x94,x105000,x105001,x105002,x105003,x105004=>if x94=true then(if x3=true then(if x4=2 then(some (x5==0))else(some false))else(some false))else(if x105000=15 then(if x105001.toList=([]:List UInt8)then(if x105002≥1 then(if x4=2 then(some (x5==0))else(some false))else(some false))else(some false))else(some false))
end
def zaw.f (k:Nat) (a0_0:Int) (a0_1:ByteArray) (a0_2:Int) (l0_3:List (S66)) (l0_4:List (S39)):Option (Bool):=if a0_1.toList=([]:List UInt8)then(zaw.j0 k (a0_2==0) a0_0 a0_1 a0_2 l0_3 l0_4)else(zaw.j0 k false a0_0 a0_1 a0_2 l0_3 l0_4)
theorem zaw.mono_l:∀k,(∀f D G I J L,LeO (zaw.j0 k f D G I J L) (zaw.j0 (k+1) f D G I J L))∧(∀f D G I J L M U X,LeO (zaw.j1 k f D G I J L M U X) (zaw.j1 (k+1) f D G I J L M U X))∧(∀f D G I J L M U X,LeO (zaw.j2 k f D G I J L M U X) (zaw.j2 (k+1) f D G I J L M U X))∧(∀f D G I J L M U X,LeO (zaw.j3 k f D G I J L M U X) (zaw.j3 (k+1) f D G I J L M U X))∧(∀f D G I J L M U X,LeO (zaw.j4 k f D G I J L M U X) (zaw.j4 (k+1) f D G I J L M U X))
 |0=>⟨fun _ _ _ _ _ _ r h=>by simp [zaw.j0]at h,fun _ _ _ _ _ _ _ _ _ r h=>by simp [zaw.j1]at h,fun _ _ _ _ _ _ _ _ _ r h=>by simp [zaw.j2]at h,fun _ _ _ _ _ _ _ _ _ r h=>by simp [zaw.j3]at h,fun _ _ _ _ _ _ _ _ _ r h=>by simp [zaw.j4]at h⟩
 |k+1=>by
  obtain⟨ih0,ih1,ih2,ih3,ih4⟩:=zaw.mono_l k
  refine⟨?_,?_,?_,?_,?_⟩<;>intros<;>(first|unfold zaw.j0|unfold zaw.j1|unfold zaw.j2|unfold zaw.j3|unfold zaw.j4)<;>repeat' first|(with_reducible first|exact ih0 _ _ _ _ _ _|exact ih1 _ _ _ _ _ _ _ _ _|exact ih2 _ _ _ _ _ _ _ _ _|exact ih3 _ _ _ _ _ _ _ _ _|exact ih4 _ _ _ _ _ _ _ _ _|exact LeO.refl _|exact LeO.none _|refine LeO.ite ?_ ?_|refine LeO.bind ?_ (fun _=>?_))|exact ih0 _ _ _ _ _ _|exact ih1 _ _ _ _ _ _ _ _ _|exact ih2 _ _ _ _ _ _ _ _ _|exact ih3 _ _ _ _ _ _ _ _ _|exact ih4 _ _ _ _ _ _ _ _ _|exact LeO.none _|refine LeO.ite ?_ ?_|refine LeO.bind ?_ (fun _=>?_)
theorem zaw.mono:∀a0 r D a3 a4 k,LeO (zaw.f k a0 r D a3 a4) (zaw.f (k+1) a0 r D a3 a4):=by
 intro a0 r D a3 a4 k
 obtain⟨ih0,ih1,ih2,ih3,ih4⟩:=zaw.mono_l k
 unfold zaw.f
 repeat' first
  |(with_reducible exact ih0 _ _ _ _ _ _)
  |(with_reducible exact ih1 _ _ _ _ _ _ _ _ _)
  |(with_reducible exact ih2 _ _ _ _ _ _ _ _ _)
  |(with_reducible exact ih3 _ _ _ _ _ _ _ _ _)
  |(with_reducible exact ih4 _ _ _ _ _ _ _ _ _)
  |(with_reducible exact LeO.refl _)
  |(with_reducible exact LeO.none _)
  |(with_reducible refine LeO.ite ?_ ?_)
  |(with_reducible refine LeO.bind ?_ (fun _=>?_))
  |exact ih0 _ _ _ _ _ _
  |exact ih1 _ _ _ _ _ _ _ _ _
  |exact ih2 _ _ _ _ _ _ _ _ _
  |exact ih3 _ _ _ _ _ _ _ _ _
  |exact ih4 _ _ _ _ _ _ _ _ _
  |exact LeO.none _
  |refine LeO.ite ?_ ?_
  |refine LeO.bind ?_ (fun _=>?_)
set_option maxHeartbeats 8000000 in
set_option maxRecDepth 100000 in
theorem zaw.calls (k:Nat) (L:Int) (a0_1:ByteArray) (a0_2:Int) (X:Option Addr) (Y:Nat) (I:List (S66)) (Z:Option Addr) (aa:Nat) (J:List (S39)) (r:Bool) (w:World) (ar:Kd.C k66 w X I.length I) (hc0_3:I.length≤Y) (au:Kd.C k39 w Z J.length J) (hc0_4:J.length≤aa) (h:zaw.f k L a0_1 a0_2 I J=some r) :
 Calls Try.prog 162 #[.agg #[.int .i64 L,.string a0_1,.int .i64 a0_2,.slice X I.length Y,.slice Z J.length aa]] w fun e w'=>e= .returned (.bool r)∧Below w.heap.size w w':=by
 have bV:=Try.underlying39
 have bJ:=mk ar
 have bK:=mk hc0_3
 clear ar hc0_3
 have bL:=mk au
 have bM:=mk hc0_4
 clear au hc0_4
 have HB:=mk (Below.refl w.heap.size w)
 have H:(if a0_1.toList=([]:List UInt8)then(zaw.j0 k (a0_2==0) L a0_1 a0_2 I J)else(zaw.j0 k false L a0_1 a0_2 I J))=some r:=h
 clear h
 have ba:=mk H
 clear H
 go_enter Try.func162,Try.ntmps162
 go_upto_region 1 with(first|((with_reducible refine zao (N:=1) rfl ?_);refine zal ?hg (N:=1) ?hd (cs:=#[.int .i64 L,.string a0_1,.int .i64 a0_2,.slice X I.length Y,.slice Z J.length aa]) (t:=39) ?hr ?_;(case hd=>rfl);(case hg=>rfl);(case hr=>exact kq21);intro ab hg w3 hbox hb;have D:=mk (hbox);have ah:=(gs_ hg kq8);have G:=ah;replace HB:=mk (zaa kq8 hb);clear hb hbox hg))
 repeat(go_quiet (first|((with_reducible refine zao (N:=1) rfl ?_);refine zal ?hg (N:=1) ?hd (cs:=#[.int .i64 L,.string a0_1,.int .i64 a0_2,.slice X I.length Y,.slice Z J.length aa]) (t:=39) ?hr ?_;(case hd=>rfl);(case hg=>rfl);(case hr=>exact kq21);intro ab hg w3 hbox hb;have D:=mk (hbox);have ah:=(gs_ hg kq8);have G:=ah;replace HB:=mk (zaa kq8 hb);clear hb hbox hg));go_upto_region 1 with(first|((with_reducible refine zao (N:=1) rfl ?_);refine zal ?hg (N:=1) ?hd (cs:=#[.int .i64 L,.string a0_1,.int .i64 a0_2,.slice X I.length Y,.slice Z J.length aa]) (t:=39) ?hr ?_;(case hd=>rfl);(case hg=>rfl);(case hr=>exact kq21);intro ab hg w3 hbox hb;have D:=mk (hbox);have ah:=(gs_ hg kq8);have G:=ah;replace HB:=mk (zaa kq8 hb);clear hb hbox hg)))
 (try simp only[Act.put,setIfInBounds_toArray,set_cons_zero,set_cons_succ])
 go_cut [3] (fun v3 wc=>∃(kq:Nat) (M:Bool),v3= .bool M∧Aside0 (zaw.j0 kq M L a0_1 a0_2 I J=some r)∧Aside0 (kq≤k)∧Aside0 (wc.heap[ab]?=some (.cells #[.int .i64 L,.string a0_1,.int .i64 a0_2,(.slice X I.length Y),(.slice Z J.length aa)] 39 (0,0)))∧Aside0 (Below w.heap.size w wc))
 case first=>
  have H:=ba.out
  clear ba
  replace H:=ic_ H;obtain⟨c4,H⟩|⟨c4,H⟩:=H
  ·obtain⟨am,bD⟩:=eTn_ c4;clear c4;((first|rw[am]|(simp only[zbi,zbq];rw[am])|skip));have H':=mk H;clear H;obtain⟨_,_,_,_,_,_,_,_,_,_⟩:=cz5_ D.out;go_wp2;(repeat(go_quiet (fail);try go_wp2));(go_meet)
   case rel=>exact⟨_,((a0_2==0)),kq3,H',⟨kq4⟩,⟨(kq22 D)⟩,⟨(kq20 G)⟩⟩
  ·obtain⟨am,bD⟩:=eFn_ c4;((first|rw[am]|(simp only[zbi,zbq];rw[am])|skip));have H':=mk H;clear H;obtain⟨_,_,_,_,_,_,_,_,_,_⟩:=cz5_ D.out;go_wp2;(repeat(go_quiet (fail);try go_wp2));(go_meet)
   case rel=>exact⟨_,(false),kq3,H',⟨kq4⟩,⟨(kq22 D)⟩,⟨(kq20 G)⟩⟩
 case rest=>
  clear ba
  obtain⟨kq,M,rfl,HA,HJ1,D,HB⟩:=hcut
  cases kq with
  |zero=>exact absurd HA.out (by simp [zaw.j0])
  |succ bN=>
   have H:=HA.out;clear HA;simp only[zaw.j0]at H;have bb:=mk H;clear H;obtain⟨_,_,_,_,_,_,_,_,_,_⟩:=cz5_ D.out;(go_upto_region 3 with(fail));(repeat(go_quiet (fail);go_upto_region 3 with(fail)));(go_cut [20] (fun bO wc=>∃(kq:Nat) (al:Bool),bO= .bool al∧Aside0 (zaw.j1 kq M (I.length:Int) (J.length:Int) al L a0_1 a0_2 I J=some r)∧Aside0 (kq≤bN)∧Aside0 (wc.heap[ab]?=some (.cells #[.int .i64 L,.string a0_1,.int .i64 a0_2,(.slice X I.length Y),(.slice Z J.length aa)] 39 (0,0)))∧Aside0 (Below w.heap.size w wc)))
   case first=>
    have H:=bb.out;clear bb;replace H:=ic_ H;obtain⟨c9,H⟩|⟨c9,H⟩:=H
    ·obtain⟨an,bE⟩:=eTn_ c9;clear c9;((first|rw[an]|(simp only[zbi,zbq];rw[an])|skip));have H':=mk H;clear H;obtain⟨_,_,_,_,_,_,_,_,_,_⟩:=cz5_ D.out;go_wp2;(repeat(go_quiet (fail);try go_wp2));(go_meet)
     case rel=>exact⟨_,(true),kq3,H',⟨kq6⟩,⟨(kq22 D)⟩,⟨(kq20 G)⟩⟩
    ·obtain⟨an,bE⟩:=eFn_ c9;((first|rw[an]|(simp only[zbi,zbq];rw[an])|skip));have H':=mk H;clear H;obtain⟨_,_,_,_,_,_,_,_,_,_⟩:=cz5_ D.out;go_wp2;(repeat(go_quiet (fail);try go_wp2));(go_meet)
     case rel=>exact⟨_,((L==1)),kq3,H',⟨kq6⟩,⟨(kq22 D)⟩,⟨(kq20 G)⟩⟩
   case rest=>
    clear bb;obtain⟨kq,al,rfl,HA,aq,D,HB⟩:=hcut
    cases kq with
    |zero=>exact absurd HA.out (by simp [zaw.j1])
    |succ bc=>
     have H:=HA.out;clear HA;simp only[zaw.j1]at H;(by_cases aJ:al=true)
     ·subst aJ;(have U:(if M=true then(if(I.length:Int)=0 then(some ((J.length:Int)==0))else(some false))else(some false))=some r:=by rw[if_pos rfl]at H;exact H);clear H;have H:=U;clear U;(by_cases aK:M=true)
      ·subst aK;(have U:(if(I.length:Int)=0 then(some ((J.length:Int)==0))else(some false))=some r:=by rw[if_pos rfl]at H;exact H);clear H;have H:=U;clear U;replace H:=ic_ H;obtain⟨av,H⟩|⟨av,H⟩:=H
       ·obtain⟨bd,be⟩:=eTn_ av;clear av;obtain rfl:=Option.some.inj H;go_wp2;(repeat(go_quiet (fail);try go_wp2));go_ret;exact⟨kq18,(kq20 G)⟩
       ·obtain⟨bd,be⟩:=eFn_ av;(have bP:¬(I=[]):=fun h_=>av (by rw[h_];rfl));obtain rfl:=Option.some.inj H;go_wp2;(repeat(go_quiet (fail);try go_wp2));go_ret;exact⟨kq18,(kq20 G)⟩
      ·replace aK:=Bool.eq_false_iff.mpr aK;subst aK;(have U:(some false)=some r:=by rw[if_neg (show ¬(false=true) by decide)]at H;exact H);clear H;have H:=U;clear U;obtain rfl:=Option.some.inj H;go_wp2;(repeat(go_quiet (fail);try go_wp2));go_ret;exact⟨kq18,(kq20 G)⟩
     ·replace aJ:=Bool.eq_false_iff.mpr aJ;subst aJ;(have U:(if L=2 then(if M=true then(if(I.length:Int)=0 then(some ((J.length:Int)==1))else(some false))else(some false))else(if L≥3 then(zaw.j2 bc M (I.length:Int) (J.length:Int) (decide (L≤6)) L a0_1 a0_2 I J)else(zaw.j2 bc M (I.length:Int) (J.length:Int) false L a0_1 a0_2 I J)))=some r:=by rw[if_neg (show ¬(false=true) by decide)]at H;exact H);clear H;have H:=U;clear U;replace H:=ic_ H;obtain⟨aM,H⟩|⟨aM,H⟩:=H
      ·obtain⟨bf,bg⟩:=eTn_ aM;clear aM;(by_cases aN:M=true)
       ·subst aN;(have U:(if(I.length:Int)=0 then(some ((J.length:Int)==1))else(some false))=some r:=by rw[if_pos rfl]at H;exact H);clear H;have H:=U;clear U;replace H:=ic_ H;obtain⟨aw,H⟩|⟨aw,H⟩:=H
        ·obtain⟨bh,bi⟩:=eTn_ aw;clear aw;obtain rfl:=Option.some.inj H;obtain⟨_,_,_,_,_,_,_,_,_,_⟩:=cz5_ D.out;go_wp2;(repeat(go_quiet (fail);try go_wp2));go_ret;exact⟨kq18,(kq20 G)⟩
        ·obtain⟨bh,bi⟩:=eFn_ aw;(have bQ:¬(I=[]):=fun h_=>aw (by rw[h_];rfl));obtain rfl:=Option.some.inj H;obtain⟨_,_,_,_,_,_,_,_,_,_⟩:=cz5_ D.out;go_wp2;(repeat(go_quiet (fail);try go_wp2));go_ret;exact⟨kq18,(kq20 G)⟩
       ·replace aN:=Bool.eq_false_iff.mpr aN;subst aN;(have U:(some false)=some r:=by rw[if_neg (show ¬(false=true) by decide)]at H;exact H);clear H;have H:=U;clear U;obtain rfl:=Option.some.inj H;obtain⟨_,_,_,_,_,_,_,_,_,_⟩:=cz5_ D.out;go_wp2;(repeat(go_quiet (fail);try go_wp2));go_ret;exact⟨kq18,(kq20 G)⟩
      ·obtain⟨bf,bg⟩:=eFn_ aM;have ax:=mk H;clear H;obtain⟨_,_,_,_,_,_,_,_,_,_⟩:=cz5_ D.out;(go_upto_region 7 with(fail));(repeat(go_quiet (fail);go_upto_region 7 with(fail)));(go_cut [51] (fun v51 wc=>∃(kq:Nat) (ae:Bool),v51= .bool ae∧Aside0 (zaw.j2 kq M (I.length:Int) (J.length:Int) ae L a0_1 a0_2 I J=some r)∧Aside0 (kq≤bc)∧Aside0 (wc.heap[ab]?=some (.cells #[.int .i64 L,.string a0_1,.int .i64 a0_2,(.slice X I.length Y),(.slice Z J.length aa)] 39 (0,0)))∧Aside0 (Below w.heap.size w wc)))
       case first=>
        have H:=ax.out;clear ax;replace H:=ic_ H;obtain⟨ay,H⟩|⟨ay,H⟩:=H
        ·have ai:decide (3≤L)=true:=decide_eq_true ay;clear ay;((first|rw[ai]|(simp only[zbi,zbq];rw[ai])|skip));have H':=mk H;clear H;obtain⟨_,_,_,_,_,_,_,_,_,_⟩:=cz5_ D.out;go_wp2;(repeat(go_quiet (fail);try go_wp2));(go_meet)
         case rel=>exact⟨_,(decide (L≤6)),kq3,H',⟨by have:=HJ1.out;have:=aq.out;first|omega|exact Nat.le_refl _⟩,⟨(kq22 D)⟩,⟨(kq20 G)⟩⟩
        ·have ai:decide (3≤L)=false:=decide_eq_false ay;clear ay;((first|rw[ai]|(simp only[zbi,zbq];rw[ai])|skip));have H':=mk H;clear H;obtain⟨_,_,_,_,_,_,_,_,_,_⟩:=cz5_ D.out;go_wp2;(repeat(go_quiet (fail);try go_wp2));(go_meet)
         case rel=>exact⟨_,(false),kq3,H',⟨by have:=HJ1.out;have:=aq.out;first|omega|exact Nat.le_refl _⟩,⟨(kq22 D)⟩,⟨(kq20 G)⟩⟩
       case rest=>
        clear ax;obtain⟨kq,ae,rfl,HA,ao,D,HB⟩:=hcut
        cases kq with
        |zero=>exact absurd HA.out (by simp [zaw.j2])
        |succ az=>
         have H:=HA.out;clear HA;simp only[zaw.j2]at H;(by_cases aQ:ae=true)
         ·subst aQ;(have U:(if M=true then(if(I.length:Int)=0 then(some ((J.length:Int)==2))else(some false))else(some false))=some r:=by rw[if_pos rfl]at H;exact H);clear H;have H:=U;clear U;(by_cases aT:M=true)
          ·subst aT;(have U:(if(I.length:Int)=0 then(some ((J.length:Int)==2))else(some false))=some r:=by rw[if_pos rfl]at H;exact H);clear H;have H:=U;clear U;replace H:=ic_ H;obtain⟨aA,H⟩|⟨aA,H⟩:=H
           ·obtain⟨bj,bk⟩:=eTn_ aA;clear aA;obtain rfl:=Option.some.inj H;go_wp2;(repeat(go_quiet (fail);try go_wp2));go_ret;exact⟨kq18,(kq20 G)⟩
           ·obtain⟨bj,bk⟩:=eFn_ aA;(have bR:¬(I=[]):=fun h_=>aA (by rw[h_];rfl));obtain rfl:=Option.some.inj H;go_wp2;(repeat(go_quiet (fail);try go_wp2));go_ret;exact⟨kq18,(kq20 G)⟩
          ·replace aT:=Bool.eq_false_iff.mpr aT;subst aT;(have U:(some false)=some r:=by rw[if_neg (show ¬(false=true) by decide)]at H;exact H);clear H;have H:=U;clear U;obtain rfl:=Option.some.inj H;go_wp2;(repeat(go_quiet (fail);try go_wp2));go_ret;exact⟨kq18,(kq20 G)⟩
         ·replace aQ:=Bool.eq_false_iff.mpr aQ;subst aQ;(have U:(if L=7 then(zaw.j3 az M (I.length:Int) (J.length:Int) true L a0_1 a0_2 I J)else(zaw.j3 az M (I.length:Int) (J.length:Int) (L==8) L a0_1 a0_2 I J))=some r:=by rw[if_neg (show ¬(false=true) by decide)]at H;exact H);clear H;have H:=U;clear U;have aC:=mk H;clear H;(go_upto_region 9 with(fail));(repeat(go_quiet (fail);go_upto_region 9 with(fail)));(go_cut [69] (fun bS wc=>∃(kq:Nat) (af:Bool),bS= .bool af∧Aside0 (zaw.j3 kq M (I.length:Int) (J.length:Int) af L a0_1 a0_2 I J=some r)∧Aside0 (kq≤az)∧Aside0 (wc.heap[ab]?=some (.cells #[.int .i64 L,.string a0_1,.int .i64 a0_2,(.slice X I.length Y),(.slice Z J.length aa)] 39 (0,0)))∧Aside0 (Below w.heap.size w wc)))
          case first=>
           have H:=aC.out;clear aC;replace H:=ic_ H;obtain⟨aU,H⟩|⟨aU,H⟩:=H
           ·obtain⟨aj,bm⟩:=eTn_ aU;clear aU;((first|rw[aj]|(simp only[zbi,zbq];rw[aj])|skip));have H':=mk H;clear H;obtain⟨_,_,_,_,_,_,_,_,_,_⟩:=cz5_ D.out;go_wp2;(repeat(go_quiet (fail);try go_wp2));(go_meet)
            case rel=>exact⟨_,(true),kq3,H',⟨by have:=HJ1.out;have:=aq.out;have:=ao.out;first|omega|exact Nat.le_refl _⟩,⟨(kq22 D)⟩,⟨(kq20 G)⟩⟩
           ·obtain⟨aj,bm⟩:=eFn_ aU;((first|rw[aj]|(simp only[zbi,zbq];rw[aj])|skip));have H':=mk H;clear H;obtain⟨_,_,_,_,_,_,_,_,_,_⟩:=cz5_ D.out;go_wp2;(repeat(go_quiet (fail);try go_wp2));(go_meet)
            case rel=>exact⟨_,((L==8)),kq3,H',⟨by have:=HJ1.out;have:=aq.out;have:=ao.out;first|omega|exact Nat.le_refl _⟩,⟨(kq22 D)⟩,⟨(kq20 G)⟩⟩
          case rest=>
           clear aC;obtain⟨kq,af,rfl,HA,b8,D,HB⟩:=hcut
           cases kq with
           |zero=>exact absurd HA.out (by simp [zaw.j3])
           |succ aD=>
            have H:=HA.out;clear HA;simp only[zaw.j3]at H;(by_cases aV:af=true)
            ·subst aV;(have U:((za5.f a0_1).bind fun ap=>(if ap=true then(if a0_2=0 then(if(I.length:Int)=0 then(some ((J.length:Int)==1))else(some false))else(some false))else(some false)))=some r:=by rw[if_pos rfl]at H;exact H);clear H;have H:=U;clear U;replace H:=Option.bind_eq_some_iff.mp H;obtain⟨ap,b9,H⟩:=H;replace H:(if ap=true then(if a0_2=0 then(if(I.length:Int)=0 then(some ((J.length:Int)==1))else(some false))else(some false))else(some false))=some r:=H;have ac:=mk b9;clear b9;(by_cases aW:ap=true)
             ·subst aW;(have U:(if a0_2=0 then(if(I.length:Int)=0 then(some ((J.length:Int)==1))else(some false))else(some false))=some r:=by rw[if_pos rfl]at H;exact H);clear H;have H:=U;clear U;replace H:=ic_ H;obtain⟨aX,H⟩|⟨aX,H⟩:=H
              ·obtain⟨bn,bo⟩:=eTn_ aX;clear aX;replace H:=ic_ H;obtain⟨aE,H⟩|⟨aE,H⟩:=H
               ·obtain⟨bp,br⟩:=eTn_ aE;clear aE;obtain rfl:=Option.some.inj H;obtain⟨_,_,_,_,_,_,_,_,_,_⟩:=cz5_ D.out;(go_wp2_with (first|(go_at_call 41;(with_reducible refine(za5.calls a0_1 true _ ac.out).mono ?_);rintro e bF ⟨rfl,hb⟩;replace D:=(bb_ D hb);replace HB:=mk (zaa (kq20 G) hb);obtain⟨_,_,_,_,_,_,_,_,_,_⟩:=cz5_ D.out)));(repeat(go_quiet (first|(go_at_call 41;(with_reducible refine(za5.calls a0_1 true _ ac.out).mono ?_);rintro e bF ⟨rfl,hb⟩;replace D:=(bb_ D hb);replace HB:=mk (zaa (kq20 G) hb);obtain⟨_,_,_,_,_,_,_,_,_,_⟩:=cz5_ D.out));try go_wp2_with (first|(go_at_call 41;(with_reducible refine(za5.calls a0_1 true _ ac.out).mono ?_);rintro e bF ⟨rfl,hb⟩;replace D:=(bb_ D hb);replace HB:=mk (zaa (kq20 G) hb);obtain⟨_,_,_,_,_,_,_,_,_,_⟩:=cz5_ D.out))));go_ret;exact⟨kq18,(kq20 G)⟩
               ·obtain⟨bp,br⟩:=eFn_ aE;(have bT:¬(I=[]):=fun h_=>aE (by rw[h_];rfl));obtain rfl:=Option.some.inj H;obtain⟨_,_,_,_,_,_,_,_,_,_⟩:=cz5_ D.out;(go_wp2_with (first|(go_at_call 41;(with_reducible refine(za5.calls a0_1 true _ ac.out).mono ?_);rintro e bG ⟨rfl,hb⟩;replace D:=(bb_ D hb);replace HB:=mk (zaa (kq20 G) hb);obtain⟨_,_,_,_,_,_,_,_,_,_⟩:=cz5_ D.out)));(repeat(go_quiet (first|(go_at_call 41;(with_reducible refine(za5.calls a0_1 true _ ac.out).mono ?_);rintro e bG ⟨rfl,hb⟩;replace D:=(bb_ D hb);replace HB:=mk (zaa (kq20 G) hb);obtain⟨_,_,_,_,_,_,_,_,_,_⟩:=cz5_ D.out));try go_wp2_with (first|(go_at_call 41;(with_reducible refine(za5.calls a0_1 true _ ac.out).mono ?_);rintro e bG ⟨rfl,hb⟩;replace D:=(bb_ D hb);replace HB:=mk (zaa (kq20 G) hb);obtain⟨_,_,_,_,_,_,_,_,_,_⟩:=cz5_ D.out))));go_ret;exact⟨kq18,(kq20 G)⟩
              ·obtain⟨bn,bo⟩:=eFn_ aX;obtain rfl:=Option.some.inj H;obtain⟨_,_,_,_,_,_,_,_,_,_⟩:=cz5_ D.out;(go_wp2_with (first|(go_at_call 41;(with_reducible refine(za5.calls a0_1 true _ ac.out).mono ?_);rintro e bH ⟨rfl,hb⟩;replace D:=(bb_ D hb);replace HB:=mk (zaa (kq20 G) hb);obtain⟨_,_,_,_,_,_,_,_,_,_⟩:=cz5_ D.out)));(repeat(go_quiet (first|(go_at_call 41;(with_reducible refine(za5.calls a0_1 true _ ac.out).mono ?_);rintro e bH ⟨rfl,hb⟩;replace D:=(bb_ D hb);replace HB:=mk (zaa (kq20 G) hb);obtain⟨_,_,_,_,_,_,_,_,_,_⟩:=cz5_ D.out));try go_wp2_with (first|(go_at_call 41;(with_reducible refine(za5.calls a0_1 true _ ac.out).mono ?_);rintro e bH ⟨rfl,hb⟩;replace D:=(bb_ D hb);replace HB:=mk (zaa (kq20 G) hb);obtain⟨_,_,_,_,_,_,_,_,_,_⟩:=cz5_ D.out))));go_ret;exact⟨kq18,(kq20 G)⟩
             ·replace aW:=Bool.eq_false_iff.mpr aW;subst aW;(have U:(some false)=some r:=by rw[if_neg (show ¬(false=true) by decide)]at H;exact H);clear H;have H:=U;clear U;obtain rfl:=Option.some.inj H;obtain⟨_,_,_,_,_,_,_,_,_,_⟩:=cz5_ D.out;(go_wp2_with (first|(go_at_call 41;(with_reducible refine(za5.calls a0_1 false _ ac.out).mono ?_);rintro e bI ⟨rfl,hb⟩;replace D:=(bb_ D hb);replace HB:=mk (zaa (kq20 G) hb))));(repeat(go_quiet (first|(go_at_call 41;(with_reducible refine(za5.calls a0_1 false _ ac.out).mono ?_);rintro e bI ⟨rfl,hb⟩;replace D:=(bb_ D hb);replace HB:=mk (zaa (kq20 G) hb)));try go_wp2_with (first|(go_at_call 41;(with_reducible refine(za5.calls a0_1 false _ ac.out).mono ?_);rintro e bI ⟨rfl,hb⟩;replace D:=(bb_ D hb);replace HB:=mk (zaa (kq20 G) hb)))));go_ret;exact⟨kq18,(kq20 G)⟩
            ·replace aV:=Bool.eq_false_iff.mpr aV;subst aV;(have U:(if L≥9 then(zaw.j4 aD M (I.length:Int) (J.length:Int) (decide (L≤14)) L a0_1 a0_2 I J)else(zaw.j4 aD M (I.length:Int) (J.length:Int) false L a0_1 a0_2 I J))=some r:=by rw[if_neg (show ¬(false=true) by decide)]at H;exact H);clear H;have H:=U;clear U;have aG:=mk H;clear H;(go_upto_region 11 with(fail));(repeat(go_quiet (fail);go_upto_region 11 with(fail)));(go_cut [94] (fun bU wc=>∃(kq:Nat) (ag:Bool),bU= .bool ag∧Aside0 (zaw.j4 kq M (I.length:Int) (J.length:Int) ag L a0_1 a0_2 I J=some r)∧Aside0 (kq≤aD)∧Aside0 (wc.heap[ab]?=some (.cells #[.int .i64 L,.string a0_1,.int .i64 a0_2,(.slice X I.length Y),(.slice Z J.length aa)] 39 (0,0)))∧Aside0 (Below w.heap.size w wc)))
             case first=>
              have H:=aG.out;clear aG;replace H:=ic_ H;obtain⟨aH,H⟩|⟨aH,H⟩:=H
              ·have ak:decide (9≤L)=true:=decide_eq_true aH;clear aH;((first|rw[ak]|(simp only[zbi,zbq];rw[ak])|skip));have H':=mk H;clear H;obtain⟨_,_,_,_,_,_,_,_,_,_⟩:=cz5_ D.out;go_wp2;(repeat(go_quiet (fail);try go_wp2));(go_meet)
               case rel=>exact⟨_,(decide (L≤14)),kq3,H',⟨by have:=HJ1.out;have:=aq.out;have:=ao.out;have:=b8.out;first|omega|exact Nat.le_refl _⟩,⟨(kq22 D)⟩,⟨(kq20 G)⟩⟩
              ·have ak:decide (9≤L)=false:=decide_eq_false aH;clear aH;((first|rw[ak]|(simp only[zbi,zbq];rw[ak])|skip));have H':=mk H;clear H;obtain⟨_,_,_,_,_,_,_,_,_,_⟩:=cz5_ D.out;go_wp2;(repeat(go_quiet (fail);try go_wp2));(go_meet)
               case rel=>exact⟨_,(false),kq3,H',⟨by have:=HJ1.out;have:=aq.out;have:=ao.out;have:=b8.out;first|omega|exact Nat.le_refl _⟩,⟨(kq22 D)⟩,⟨(kq20 G)⟩⟩
             case rest=>
              clear aG;obtain⟨kq,ag,rfl,HA,bW,D,HB⟩:=hcut
              cases kq with
              |zero=>exact absurd HA.out (by simp [zaw.j4])
              |succ bX=>
               have H:=HA.out;clear HA;simp only[zaw.j4]at H;(by_cases aY:ag=true)
               ·subst aY;(have U:(if M=true then(if(I.length:Int)=2 then(some ((J.length:Int)==0))else(some false))else(some false))=some r:=by rw[if_pos rfl]at H;exact H);clear H;have H:=U;clear U;(by_cases aZ:M=true)
                ·subst aZ;(have U:(if(I.length:Int)=2 then(some ((J.length:Int)==0))else(some false))=some r:=by rw[if_pos rfl]at H;exact H);clear H;have H:=U;clear U;replace H:=ic_ H;obtain⟨b4,H⟩|⟨b4,H⟩:=H
                 ·obtain⟨bs,bu⟩:=eTn_ b4;clear b4;obtain rfl:=Option.some.inj H;go_wp2;(repeat(go_quiet (fail);try go_wp2));go_ret;exact⟨kq18,(kq20 G)⟩
                 ·obtain⟨bs,bu⟩:=eFn_ b4;obtain rfl:=Option.some.inj H;go_wp2;(repeat(go_quiet (fail);try go_wp2));go_ret;exact⟨kq18,(kq20 G)⟩
                ·replace aZ:=Bool.eq_false_iff.mpr aZ;subst aZ;(have U:(some false)=some r:=by rw[if_neg (show ¬(false=true) by decide)]at H;exact H);clear H;have H:=U;clear U;obtain rfl:=Option.some.inj H;go_wp2;(repeat(go_quiet (fail);try go_wp2));go_ret;exact⟨kq18,(kq20 G)⟩
               ·replace aY:=Bool.eq_false_iff.mpr aY;subst aY;(have U:(if L=15 then(if a0_1.toList=([]:List UInt8)then(if a0_2≥1 then(if(I.length:Int)=2 then(some ((J.length:Int)==0))else(some false))else(some false))else(some false))else(some false))=some r:=by rw[if_neg (show ¬(false=true) by decide)]at H;exact H);clear H;have H:=U;clear U;replace H:=ic_ H;obtain⟨b5,H⟩|⟨b5,H⟩:=H
                ·obtain⟨bv,bw⟩:=eTn_ b5;clear b5;replace H:=ic_ H;obtain⟨b6,H⟩|⟨b6,H⟩:=H
                 ·obtain⟨bx,bz⟩:=eTn_ b6;clear b6;replace H:=ic_ H;obtain⟨aI,H⟩|⟨aI,H⟩:=H
                  ·have bA:decide (1≤a0_2)=true:=decide_eq_true aI;clear aI;replace H:=ic_ H;obtain⟨b7,H⟩|⟨b7,H⟩:=H
                   ·obtain⟨bB,bC⟩:=eTn_ b7;clear b7;obtain rfl:=Option.some.inj H;obtain⟨_,_,_,_,_,_,_,_,_,_⟩:=cz5_ D.out;go_wp2;(repeat(go_quiet (fail);try go_wp2));go_ret;exact⟨kq18,(kq20 G)⟩
                   ·obtain⟨bB,bC⟩:=eFn_ b7;obtain rfl:=Option.some.inj H;obtain⟨_,_,_,_,_,_,_,_,_,_⟩:=cz5_ D.out;go_wp2;(repeat(go_quiet (fail);try go_wp2));go_ret;exact⟨kq18,(kq20 G)⟩
                  ·have bA:decide (1≤a0_2)=false:=decide_eq_false aI;clear aI;obtain rfl:=Option.some.inj H;obtain⟨_,_,_,_,_,_,_,_,_,_⟩:=cz5_ D.out;go_wp2;(repeat(go_quiet (fail);try go_wp2));go_ret;exact⟨kq18,(kq20 G)⟩
                 ·obtain⟨bx,bz⟩:=eFn_ b6;obtain rfl:=Option.some.inj H;obtain⟨_,_,_,_,_,_,_,_,_,_⟩:=cz5_ D.out;go_wp2;(repeat(go_quiet (fail);try go_wp2));go_ret;exact⟨kq18,(kq20 G)⟩
                ·obtain⟨bv,bw⟩:=eFn_ b5;obtain rfl:=Option.some.inj H;obtain⟨_,_,_,_,_,_,_,_,_,_⟩:=cz5_ D.out;go_wp2;(repeat(go_quiet (fail);try go_wp2));go_ret;exact⟨kq18,(kq20 G)⟩
end Go.Proofs.Ytjknpmibdkoklaa.Q
