/- Walks and laws, joined: Wb53. -/
import Derived.Test.YtdnjfnofjaoajaaGreatDoorWb50
import Derived.Test.YtdnjfnofjaoajaaGreatDoorWb14
set_option linter.unusedVariables false
set_option maxHeartbeats 16000000
namespace Go.Proofs.YtdnjfnofjaoajaaGreatDoor
open Lib (hid)
section
open Go.RowKit
attribute [local go_sem] vq
abbrev Lim:=Int×Int×Int×Int×Int
def je (l:Lim):Value:=.agg #[.int .i64 l.1,.int .i64 l.2.1,.int .i64 l.2.2.1,.int .i64 l.2.2.2.1,.int .i64 l.2.2.2.2]
def zn (l:Lim):Nat→Int
 | 0=>l.1
 | 1=>l.2.1
 | 2=>l.2.2.1
 | 3=>l.2.2.2.1
 | _=>l.2.2.2.2
def zbe (a b:Lim):Option Nat:=qj (fun i=>if zn b i<zn a i then some i else none) 5
def zhf (a:Lim):Option Nat:=qj (fun i=>if zn a i<0 then some i else none) 5
def zl9 (a b:Lim):Lim:=(max a.1 b.1,max a.2.1 b.2.1,max a.2.2.1 b.2.2.1,max a.2.2.2.1 b.2.2.2.1,max a.2.2.2.2 b.2.2.2.2)
def zyj (w:World) (g:Nat) (l:Lim):Prop:=∀i,i<5→w.cell? ⟨g,i,none⟩=some (.int .i64 (zn l i))
theorem zhg (w:World) (x y z u v:Value) (T:TypeId) (w':World) (h:Below (w.alloc (.cells #[x,y,z,u,v] T)).heap.size (w.alloc (.cells #[x,y,z,u,v] T)) w'):
 w'.cell? ⟨w.heap.size,0,none⟩=some x∧w'.cell? ⟨w.heap.size,1,none⟩=some y∧w'.cell? ⟨w.heap.size,2,none⟩=some z∧w'.cell? ⟨w.heap.size,3,none⟩=some u∧w'.cell? ⟨w.heap.size,4,none⟩=some v:=by
 have hrow:(w.alloc (.cells #[x,y,z,u,v] T)).heap[w.heap.size]?=some (.cells #[x,y,z,u,v] T):=z7 rfl
 exact⟨(h.cell (p:=⟨w.heap.size,0,none⟩) (by simp)).trans (zu (i:=0) hrow rfl),(h.cell (p:=⟨w.heap.size,1,none⟩) (by simp)).trans (zu (i:=1) hrow rfl),(h.cell (p:=⟨w.heap.size,2,none⟩) (by simp)).trans (zu (i:=2) hrow rfl),
  (h.cell (p:=⟨w.heap.size,3,none⟩) (by simp)).trans (zu (i:=3) hrow rfl),(h.cell (p:=⟨w.heap.size,4,none⟩) (by simp)).trans (zu (i:=4) hrow rfl)⟩
theorem zma (w:World) (l:Lim) (T:TypeId) (w':World) (h:Below (w.alloc (.cells #[.int .i64 l.1,.int .i64 l.2.1,.int .i64 l.2.2.1,.int .i64 l.2.2.2.1,.int .i64 l.2.2.2.2] T)).heap.size (w.alloc (.cells #[.int .i64 l.1,.int .i64 l.2.1,.int .i64 l.2.2.1,.int .i64 l.2.2.2.1,.int .i64 l.2.2.2.2] T)) w'):zyj w' w.heap.size l:=by
 obtain⟨h0,h1,h2,h3,h4⟩:=zhg w _ _ _ _ _ T w' h;intro i hi;rcases(by omega:i=0∨i=1∨i=2∨i=3∨i=4) with rfl | rfl | rfl | rfl | rfl
 · exact h0
 · exact h1
 · exact h2
 · exact h3
 · exact h4
def zv (f:FuncId):Value:=.func (.func f) #[] #[]
def zjf:Value:=.agg #[zv 182,zv 183,zv 184,zv 185,zv 186]
theorem zpt (w:World):Calls Tryz.prog 132 #[] w fun x w'=>x=.returned zjf∧Below w.heap.size w w':=by
 go_enter Tryz.func132,Tryz.ntmps132;go_wp2;refine bodyPost_ret (v:=zjf) (by simp[results,Tryz.results132,go_sem];rfl) rfl ?_;exact⟨rfl,(Below.refl _ _).alloc (Nat.le_refl _) _⟩
theorem zjg (g:Nat) (w:World):Calls Tryz.prog 182 #[.pointer (some ⟨g,0,none⟩)] w fun x w'=>x=.returned (.pointer (some ⟨g,0,none⟩))∧w=w':=by
 go_enter Tryz.func182,Tryz.ntmps182;go_wp2;go_ret;exact⟨rfl,rfl⟩
theorem zjh (g:Nat) (w:World):Calls Tryz.prog 183 #[.pointer (some ⟨g,0,none⟩)] w fun x w'=>x=.returned (.pointer (some ⟨g,1,none⟩))∧w=w':=by
 go_enter Tryz.func183,Tryz.ntmps183;go_wp2;go_ret;exact⟨rfl,rfl⟩
theorem zji (g:Nat) (w:World):Calls Tryz.prog 184 #[.pointer (some ⟨g,0,none⟩)] w fun x w'=>x=.returned (.pointer (some ⟨g,2,none⟩))∧w=w':=by
 go_enter Tryz.func184,Tryz.ntmps184;go_wp2;go_ret;exact⟨rfl,rfl⟩
theorem zjj (g:Nat) (w:World):Calls Tryz.prog 185 #[.pointer (some ⟨g,0,none⟩)] w fun x w'=>x=.returned (.pointer (some ⟨g,3,none⟩))∧w=w':=by
 go_enter Tryz.func185,Tryz.ntmps185;go_wp2;go_ret;exact⟨rfl,rfl⟩
theorem zjk (g:Nat) (w:World):Calls Tryz.prog 186 #[.pointer (some ⟨g,0,none⟩)] w fun x w'=>x=.returned (.pointer (some ⟨g,4,none⟩))∧w=w':=by
 go_enter Tryz.func186,Tryz.ntmps186;go_wp2;go_ret;exact⟨rfl,rfl⟩
theorem kn:(Tryz.prog.info? 217).map (·.size)=some 1:=by kernel_rfl
set_option maxRecDepth 100000 in
theorem zyk (a b:Lim) (w:World):
 Calls Tryz.prog 83 #[je a,je b] w fun x w'=>x=.returned (.int .i64 (zax (zbe a b)))∧Below w.heap.size w w':=by
 have hal1:Below w.heap.size w (w.alloc (.cells #[.int .i64 a.1,.int .i64 a.2.1,.int .i64 a.2.2.1,.int .i64 a.2.2.2.1,.int .i64 a.2.2.2.2] 42)):=(Below.refl _ _).alloc (Nat.le_refl _) _;have hal2:Below (w.alloc (.cells #[.int .i64 a.1,.int .i64 a.2.1,.int .i64 a.2.2.1,.int .i64 a.2.2.2.1,.int .i64 a.2.2.2.2] 42)).heap.size (w.alloc (.cells #[.int .i64 a.1,.int .i64 a.2.1,.int .i64 a.2.2.1,.int .i64 a.2.2.2.1,.int .i64 a.2.2.2.2] 42)) ((w.alloc (.cells #[.int .i64 a.1,.int .i64 a.2.1,.int .i64 a.2.2.1,.int .i64 a.2.2.2.1,.int .i64 a.2.2.2.2] 42)).alloc (.cells #[.int .i64 b.1,.int .i64 b.2.1,.int .i64 b.2.2.1,.int .i64 b.2.2.2.1,.int .i64 b.2.2.2.2] 42)):=(Below.refl _ _).alloc (Nat.le_refl _) _;have HA:=hid (fun w' (h:Below ((w.alloc (.cells #[.int .i64 a.1,.int .i64 a.2.1,.int .i64 a.2.2.1,.int .i64 a.2.2.2.1,.int .i64 a.2.2.2.2] 42)).alloc (.cells #[.int .i64 b.1,.int .i64 b.2.1,.int .i64 b.2.2.1,.int .i64 b.2.2.2.1,.int .i64 b.2.2.2.2] 42)).heap.size ((w.alloc (.cells #[.int .i64 a.1,.int .i64 a.2.1,.int .i64 a.2.2.1,.int .i64 a.2.2.2.1,.int .i64 a.2.2.2.2] 42)).alloc (.cells #[.int .i64 b.1,.int .i64 b.2.1,.int .i64 b.2.2.1,.int .i64 b.2.2.2.1,.int .i64 b.2.2.2.2] 42)) w')=>zma w a 42 w' (hal2.trans (h.mono hal2.size)))
 have HB:=hid (fun w' (h:Below ((w.alloc (.cells #[.int .i64 a.1,.int .i64 a.2.1,.int .i64 a.2.2.1,.int .i64 a.2.2.2.1,.int .i64 a.2.2.2.2] 42)).alloc (.cells #[.int .i64 b.1,.int .i64 b.2.1,.int .i64 b.2.2.1,.int .i64 b.2.2.2.1,.int .i64 b.2.2.2.2] 42)).heap.size ((w.alloc (.cells #[.int .i64 a.1,.int .i64 a.2.1,.int .i64 a.2.2.1,.int .i64 a.2.2.2.1,.int .i64 a.2.2.2.2] 42)).alloc (.cells #[.int .i64 b.1,.int .i64 b.2.1,.int .i64 b.2.2.1,.int .i64 b.2.2.2.1,.int .i64 b.2.2.2.2] 42)) w')=>show zyj w' (w.heap.size+1) b from by
  have:=zma (w.alloc (.cells #[.int .i64 a.1,.int .i64 a.2.1,.int .i64 a.2.2.1,.int .i64 a.2.2.2.1,.int .i64 a.2.2.2.2] 42)) b 42 w' h;rwa [World.size_alloc] at this)
 have Hal:=hid (hal1.trans (hal2.mono hal1.size));have Hx:=hid (show zbe a b=qj (fun i=>if zn b i<zn a i then some i else none) 5 from rfl);unfold je;clear hal1 hal2;go_enter Tryz.func83,Tryz.ntmps83;go_wp2_with fail;generalize hW:(w.alloc (.cells #[.int .i64 a.1,.int .i64 a.2.1,.int .i64 a.2.2.1,.int .i64 a.2.2.2.1,.int .i64 a.2.2.2.2] 42)).alloc (.cells #[.int .i64 b.1,.int .i64 b.2.1,.int .i64 b.2.2.1,.int .i64 b.2.2.2.1,.int .i64 b.2.2.2.2] 42)=W at*;clear hW;refine(zpt _).mono ?_;rintro e w1 ⟨rfl,hb1⟩;have Hb1:=hid hb1;clear hb1;unfold zjf zv;go_wp2;go_loopw [5,6,8] (fun _ _ i wr=>∃q:Nat,q≤5∧i=.int .i64 q∧Below W.heap.size W wr∧Hid (∀j,j<q→(if zn b j<zn a j then some j else none)=none)) (fun _ _ i _=>5 - (intOf i).toNat)
 case atStart=>exact⟨0,by omega,rfl,Hb1.out,fun j h=>by omega⟩
 case round=>
  obtain⟨q,hq5,rfl,hb,ht⟩:=hrel;have Hb:=hid hb;clear hb;by_cases hq:q<5
  · rcases(by omega:q=0∨q=1∨q=2∨q=3∨q=4) with rfl | rfl | rfl | rfl | rfl
    · by_cases h:zn b 0<zn a 0
      · have hd1:decide (zn b 0<zn a 0)=true:=decide_eq_true h;have Hr:=hid (jg (show 0<5 by omega) ht.out (if_pos h));clear h hq;have Hal2:=hid (Hb.out.alloc Hb.out.size (.cells #[zv 182] 217));have HAr:=hid (fun w' (h:Below (wr.alloc (.cells #[zv 182] 217)).heap.size (wr.alloc (.cells #[zv 182] 217)) w')=>HA.out w' (Hal2.out.trans (h.mono Hal2.out.size)) 0 (by omega));have HBr:=hid (fun w' (h:Below (wr.alloc (.cells #[zv 182] 217)).heap.size (wr.alloc (.cells #[zv 182] 217)) w')=>HB.out w' (Hal2.out.trans (h.mono Hal2.out.size)) 0 (by omega));have HX:=hid (fun w' (h:Below (wr.alloc (.cells #[zv 182] 217)).heap.size (wr.alloc (.cells #[zv 182] 217)) w')=>show w'.cell? ⟨wr.heap.size,0,none⟩=some (.func (.func 182) #[] #[]) from(h.cell (p:=⟨wr.heap.size,0,none⟩) (by simp)).trans (zu (i:=0) (z7 rfl) rfl));generalize zn a 0=xa at*;generalize zn b 0=xb at*;unfold zv at Hal2 HAr HBr HX;go_wp2_with (refine ji _ _ _ rfl rfl _ 0 5 217 _ _ rfl rfl Tryz.underlying218 (by omega) Tryz.underlying217 kn rfl ?_);generalize wr.alloc (.cells #[.func (.func 182) #[] #[]] 217)=wq at*;refine qi (by kernel_rfl) (by kernel_rfl) ?_
        repeat (go_big_quiet_step ((intro hw;first
         | rfl
         | (have y1:=HAr.out _ hw
            have y2:=HBr.out _ hw;have y3:=HX.out _ hw
            first
            | (go_at_call 182;refine(zjg _ _).mono ?_;rintro e w4 ⟨rfl,rfl⟩;exact⟨rfl,hw⟩)
            | (go_simp
               first | rfl | exact⟨rfl,hw⟩ | (trace_state;fail))))))
        refine wpQuiet_nil ?_;intro w3 hb3;go_wp2;go_ret;exact⟨by rw[Hx.out,Hr.out];rfl,Hal.out.trans ((Hal2.out.trans (hb3.mono Hal2.out.size)).mono Hal.out.size)⟩
      · have hd1:decide (zn b 0<zn a 0)=false:=decide_eq_false h;have Hr:=hid (ko ht.out (if_neg h));clear h hq;have Hal2:=hid (Hb.out.alloc Hb.out.size (.cells #[zv 182] 217));have HAr:=hid (fun w' (h:Below (wr.alloc (.cells #[zv 182] 217)).heap.size (wr.alloc (.cells #[zv 182] 217)) w')=>HA.out w' (Hal2.out.trans (h.mono Hal2.out.size)) 0 (by omega));have HBr:=hid (fun w' (h:Below (wr.alloc (.cells #[zv 182] 217)).heap.size (wr.alloc (.cells #[zv 182] 217)) w')=>HB.out w' (Hal2.out.trans (h.mono Hal2.out.size)) 0 (by omega));have HX:=hid (fun w' (h:Below (wr.alloc (.cells #[zv 182] 217)).heap.size (wr.alloc (.cells #[zv 182] 217)) w')=>show w'.cell? ⟨wr.heap.size,0,none⟩=some (.func (.func 182) #[] #[]) from(h.cell (p:=⟨wr.heap.size,0,none⟩) (by simp)).trans (zu (i:=0) (z7 rfl) rfl));generalize zn a 0=xa at*;generalize zn b 0=xb at*;unfold zv at Hal2 HAr HBr HX;go_wp2_with (refine ji _ _ _ rfl rfl _ 0 5 217 _ _ rfl rfl Tryz.underlying218 (by omega) Tryz.underlying217 kn rfl ?_);generalize wr.alloc (.cells #[.func (.func 182) #[] #[]] 217)=wq at*;refine qi (by kernel_rfl) (by kernel_rfl) ?_
        repeat (go_big_quiet_step ((intro hw;first
         | rfl
         | (have y1:=HAr.out _ hw
            have y2:=HBr.out _ hw;have y3:=HX.out _ hw
            first
            | (go_at_call 182;refine(zjg _ _).mono ?_;rintro e w4 ⟨rfl,rfl⟩;exact⟨rfl,hw⟩)
            | (go_simp
               first | rfl | exact⟨rfl,hw⟩ | (trace_state;fail))))))
        refine wpQuiet_nil ?_;intro w3 hb3;go_wp2;go_roundw
        case rel=>exact⟨1,by omega,by go_num,Hal2.out.trans (hb3.mono Hal2.out.size),Hr.out⟩
        case measure=>simp[intOf]
    · by_cases h:zn b 1<zn a 1
      · have hd1:decide (zn b 1<zn a 1)=true:=decide_eq_true h;have Hr:=hid (jg (show 1<5 by omega) ht.out (if_pos h));clear h hq;have Hal2:=hid (Hb.out.alloc Hb.out.size (.cells #[zv 183] 217));have HAr:=hid (fun w' (h:Below (wr.alloc (.cells #[zv 183] 217)).heap.size (wr.alloc (.cells #[zv 183] 217)) w')=>HA.out w' (Hal2.out.trans (h.mono Hal2.out.size)) 1 (by omega));have HBr:=hid (fun w' (h:Below (wr.alloc (.cells #[zv 183] 217)).heap.size (wr.alloc (.cells #[zv 183] 217)) w')=>HB.out w' (Hal2.out.trans (h.mono Hal2.out.size)) 1 (by omega));have HX:=hid (fun w' (h:Below (wr.alloc (.cells #[zv 183] 217)).heap.size (wr.alloc (.cells #[zv 183] 217)) w')=>show w'.cell? ⟨wr.heap.size,0,none⟩=some (.func (.func 183) #[] #[]) from(h.cell (p:=⟨wr.heap.size,0,none⟩) (by simp)).trans (zu (i:=0) (z7 rfl) rfl));generalize zn a 1=xa at*;generalize zn b 1=xb at*;unfold zv at Hal2 HAr HBr HX;go_wp2_with (refine ji _ _ _ rfl rfl _ 1 5 217 _ _ rfl rfl Tryz.underlying218 (by omega) Tryz.underlying217 kn rfl ?_);generalize wr.alloc (.cells #[.func (.func 183) #[] #[]] 217)=wq at*;refine qi (by kernel_rfl) (by kernel_rfl) ?_
        repeat (go_big_quiet_step ((intro hw;first
         | rfl
         | (have y1:=HAr.out _ hw
            have y2:=HBr.out _ hw;have y3:=HX.out _ hw
            first
            | (go_at_call 183;refine(zjh _ _).mono ?_;rintro e w4 ⟨rfl,rfl⟩;exact⟨rfl,hw⟩)
            | (go_simp
               first | rfl | exact⟨rfl,hw⟩ | (trace_state;fail))))))
        refine wpQuiet_nil ?_;intro w3 hb3;go_wp2;go_ret;exact⟨by rw[Hx.out,Hr.out];rfl,Hal.out.trans ((Hal2.out.trans (hb3.mono Hal2.out.size)).mono Hal.out.size)⟩
      · have hd1:decide (zn b 1<zn a 1)=false:=decide_eq_false h;have Hr:=hid (ko ht.out (if_neg h));clear h hq;have Hal2:=hid (Hb.out.alloc Hb.out.size (.cells #[zv 183] 217));have HAr:=hid (fun w' (h:Below (wr.alloc (.cells #[zv 183] 217)).heap.size (wr.alloc (.cells #[zv 183] 217)) w')=>HA.out w' (Hal2.out.trans (h.mono Hal2.out.size)) 1 (by omega));have HBr:=hid (fun w' (h:Below (wr.alloc (.cells #[zv 183] 217)).heap.size (wr.alloc (.cells #[zv 183] 217)) w')=>HB.out w' (Hal2.out.trans (h.mono Hal2.out.size)) 1 (by omega));have HX:=hid (fun w' (h:Below (wr.alloc (.cells #[zv 183] 217)).heap.size (wr.alloc (.cells #[zv 183] 217)) w')=>show w'.cell? ⟨wr.heap.size,0,none⟩=some (.func (.func 183) #[] #[]) from(h.cell (p:=⟨wr.heap.size,0,none⟩) (by simp)).trans (zu (i:=0) (z7 rfl) rfl));generalize zn a 1=xa at*;generalize zn b 1=xb at*;unfold zv at Hal2 HAr HBr HX;go_wp2_with (refine ji _ _ _ rfl rfl _ 1 5 217 _ _ rfl rfl Tryz.underlying218 (by omega) Tryz.underlying217 kn rfl ?_);generalize wr.alloc (.cells #[.func (.func 183) #[] #[]] 217)=wq at*;refine qi (by kernel_rfl) (by kernel_rfl) ?_
        repeat (go_big_quiet_step ((intro hw;first
         | rfl
         | (have y1:=HAr.out _ hw
            have y2:=HBr.out _ hw;have y3:=HX.out _ hw
            first
            | (go_at_call 183;refine(zjh _ _).mono ?_;rintro e w4 ⟨rfl,rfl⟩;exact⟨rfl,hw⟩)
            | (go_simp
               first | rfl | exact⟨rfl,hw⟩ | (trace_state;fail))))))
        refine wpQuiet_nil ?_;intro w3 hb3;go_wp2;go_roundw
        case rel=>exact⟨2,by omega,by go_num,Hal2.out.trans (hb3.mono Hal2.out.size),Hr.out⟩
        case measure=>simp[intOf]
    · by_cases h:zn b 2<zn a 2
      · have hd1:decide (zn b 2<zn a 2)=true:=decide_eq_true h;have Hr:=hid (jg (show 2<5 by omega) ht.out (if_pos h));clear h hq;have Hal2:=hid (Hb.out.alloc Hb.out.size (.cells #[zv 184] 217));have HAr:=hid (fun w' (h:Below (wr.alloc (.cells #[zv 184] 217)).heap.size (wr.alloc (.cells #[zv 184] 217)) w')=>HA.out w' (Hal2.out.trans (h.mono Hal2.out.size)) 2 (by omega));have HBr:=hid (fun w' (h:Below (wr.alloc (.cells #[zv 184] 217)).heap.size (wr.alloc (.cells #[zv 184] 217)) w')=>HB.out w' (Hal2.out.trans (h.mono Hal2.out.size)) 2 (by omega));have HX:=hid (fun w' (h:Below (wr.alloc (.cells #[zv 184] 217)).heap.size (wr.alloc (.cells #[zv 184] 217)) w')=>show w'.cell? ⟨wr.heap.size,0,none⟩=some (.func (.func 184) #[] #[]) from(h.cell (p:=⟨wr.heap.size,0,none⟩) (by simp)).trans (zu (i:=0) (z7 rfl) rfl));generalize zn a 2=xa at*;generalize zn b 2=xb at*;unfold zv at Hal2 HAr HBr HX;go_wp2_with (refine ji _ _ _ rfl rfl _ 2 5 217 _ _ rfl rfl Tryz.underlying218 (by omega) Tryz.underlying217 kn rfl ?_);generalize wr.alloc (.cells #[.func (.func 184) #[] #[]] 217)=wq at*;refine qi (by kernel_rfl) (by kernel_rfl) ?_
        repeat (go_big_quiet_step ((intro hw;first
         | rfl
         | (have y1:=HAr.out _ hw
            have y2:=HBr.out _ hw;have y3:=HX.out _ hw
            first
            | (go_at_call 184;refine(zji _ _).mono ?_;rintro e w4 ⟨rfl,rfl⟩;exact⟨rfl,hw⟩)
            | (go_simp
               first | rfl | exact⟨rfl,hw⟩ | (trace_state;fail))))))
        refine wpQuiet_nil ?_;intro w3 hb3;go_wp2;go_ret;exact⟨by rw[Hx.out,Hr.out];rfl,Hal.out.trans ((Hal2.out.trans (hb3.mono Hal2.out.size)).mono Hal.out.size)⟩
      · have hd1:decide (zn b 2<zn a 2)=false:=decide_eq_false h;have Hr:=hid (ko ht.out (if_neg h));clear h hq;have Hal2:=hid (Hb.out.alloc Hb.out.size (.cells #[zv 184] 217));have HAr:=hid (fun w' (h:Below (wr.alloc (.cells #[zv 184] 217)).heap.size (wr.alloc (.cells #[zv 184] 217)) w')=>HA.out w' (Hal2.out.trans (h.mono Hal2.out.size)) 2 (by omega));have HBr:=hid (fun w' (h:Below (wr.alloc (.cells #[zv 184] 217)).heap.size (wr.alloc (.cells #[zv 184] 217)) w')=>HB.out w' (Hal2.out.trans (h.mono Hal2.out.size)) 2 (by omega));have HX:=hid (fun w' (h:Below (wr.alloc (.cells #[zv 184] 217)).heap.size (wr.alloc (.cells #[zv 184] 217)) w')=>show w'.cell? ⟨wr.heap.size,0,none⟩=some (.func (.func 184) #[] #[]) from(h.cell (p:=⟨wr.heap.size,0,none⟩) (by simp)).trans (zu (i:=0) (z7 rfl) rfl));generalize zn a 2=xa at*;generalize zn b 2=xb at*;unfold zv at Hal2 HAr HBr HX;go_wp2_with (refine ji _ _ _ rfl rfl _ 2 5 217 _ _ rfl rfl Tryz.underlying218 (by omega) Tryz.underlying217 kn rfl ?_);generalize wr.alloc (.cells #[.func (.func 184) #[] #[]] 217)=wq at*;refine qi (by kernel_rfl) (by kernel_rfl) ?_
        repeat (go_big_quiet_step ((intro hw;first
         | rfl
         | (have y1:=HAr.out _ hw
            have y2:=HBr.out _ hw;have y3:=HX.out _ hw
            first
            | (go_at_call 184;refine(zji _ _).mono ?_;rintro e w4 ⟨rfl,rfl⟩;exact⟨rfl,hw⟩)
            | (go_simp
               first | rfl | exact⟨rfl,hw⟩ | (trace_state;fail))))))
        refine wpQuiet_nil ?_;intro w3 hb3;go_wp2;go_roundw
        case rel=>exact⟨3,by omega,by go_num,Hal2.out.trans (hb3.mono Hal2.out.size),Hr.out⟩
        case measure=>simp[intOf]
    · by_cases h:zn b 3<zn a 3
      · have hd1:decide (zn b 3<zn a 3)=true:=decide_eq_true h;have Hr:=hid (jg (show 3<5 by omega) ht.out (if_pos h));clear h hq;have Hal2:=hid (Hb.out.alloc Hb.out.size (.cells #[zv 185] 217));have HAr:=hid (fun w' (h:Below (wr.alloc (.cells #[zv 185] 217)).heap.size (wr.alloc (.cells #[zv 185] 217)) w')=>HA.out w' (Hal2.out.trans (h.mono Hal2.out.size)) 3 (by omega));have HBr:=hid (fun w' (h:Below (wr.alloc (.cells #[zv 185] 217)).heap.size (wr.alloc (.cells #[zv 185] 217)) w')=>HB.out w' (Hal2.out.trans (h.mono Hal2.out.size)) 3 (by omega));have HX:=hid (fun w' (h:Below (wr.alloc (.cells #[zv 185] 217)).heap.size (wr.alloc (.cells #[zv 185] 217)) w')=>show w'.cell? ⟨wr.heap.size,0,none⟩=some (.func (.func 185) #[] #[]) from(h.cell (p:=⟨wr.heap.size,0,none⟩) (by simp)).trans (zu (i:=0) (z7 rfl) rfl));generalize zn a 3=xa at*;generalize zn b 3=xb at*;unfold zv at Hal2 HAr HBr HX;go_wp2_with (refine ji _ _ _ rfl rfl _ 3 5 217 _ _ rfl rfl Tryz.underlying218 (by omega) Tryz.underlying217 kn rfl ?_);generalize wr.alloc (.cells #[.func (.func 185) #[] #[]] 217)=wq at*;refine qi (by kernel_rfl) (by kernel_rfl) ?_
        repeat (go_big_quiet_step ((intro hw;first
         | rfl
         | (have y1:=HAr.out _ hw
            have y2:=HBr.out _ hw;have y3:=HX.out _ hw
            first
            | (go_at_call 185;refine(zjj _ _).mono ?_;rintro e w4 ⟨rfl,rfl⟩;exact⟨rfl,hw⟩)
            | (go_simp
               first | rfl | exact⟨rfl,hw⟩ | (trace_state;fail))))))
        refine wpQuiet_nil ?_;intro w3 hb3;go_wp2;go_ret;exact⟨by rw[Hx.out,Hr.out];rfl,Hal.out.trans ((Hal2.out.trans (hb3.mono Hal2.out.size)).mono Hal.out.size)⟩
      · have hd1:decide (zn b 3<zn a 3)=false:=decide_eq_false h;have Hr:=hid (ko ht.out (if_neg h));clear h hq;have Hal2:=hid (Hb.out.alloc Hb.out.size (.cells #[zv 185] 217));have HAr:=hid (fun w' (h:Below (wr.alloc (.cells #[zv 185] 217)).heap.size (wr.alloc (.cells #[zv 185] 217)) w')=>HA.out w' (Hal2.out.trans (h.mono Hal2.out.size)) 3 (by omega));have HBr:=hid (fun w' (h:Below (wr.alloc (.cells #[zv 185] 217)).heap.size (wr.alloc (.cells #[zv 185] 217)) w')=>HB.out w' (Hal2.out.trans (h.mono Hal2.out.size)) 3 (by omega));have HX:=hid (fun w' (h:Below (wr.alloc (.cells #[zv 185] 217)).heap.size (wr.alloc (.cells #[zv 185] 217)) w')=>show w'.cell? ⟨wr.heap.size,0,none⟩=some (.func (.func 185) #[] #[]) from(h.cell (p:=⟨wr.heap.size,0,none⟩) (by simp)).trans (zu (i:=0) (z7 rfl) rfl));generalize zn a 3=xa at*;generalize zn b 3=xb at*;unfold zv at Hal2 HAr HBr HX;go_wp2_with (refine ji _ _ _ rfl rfl _ 3 5 217 _ _ rfl rfl Tryz.underlying218 (by omega) Tryz.underlying217 kn rfl ?_);generalize wr.alloc (.cells #[.func (.func 185) #[] #[]] 217)=wq at*;refine qi (by kernel_rfl) (by kernel_rfl) ?_
        repeat (go_big_quiet_step ((intro hw;first
         | rfl
         | (have y1:=HAr.out _ hw
            have y2:=HBr.out _ hw;have y3:=HX.out _ hw
            first
            | (go_at_call 185;refine(zjj _ _).mono ?_;rintro e w4 ⟨rfl,rfl⟩;exact⟨rfl,hw⟩)
            | (go_simp
               first | rfl | exact⟨rfl,hw⟩ | (trace_state;fail))))))
        refine wpQuiet_nil ?_;intro w3 hb3;go_wp2;go_roundw
        case rel=>exact⟨4,by omega,by go_num,Hal2.out.trans (hb3.mono Hal2.out.size),Hr.out⟩
        case measure=>simp[intOf]
    · by_cases h:zn b 4<zn a 4
      · have hd1:decide (zn b 4<zn a 4)=true:=decide_eq_true h;have Hr:=hid (jg (show 4<5 by omega) ht.out (if_pos h));clear h hq;have Hal2:=hid (Hb.out.alloc Hb.out.size (.cells #[zv 186] 217));have HAr:=hid (fun w' (h:Below (wr.alloc (.cells #[zv 186] 217)).heap.size (wr.alloc (.cells #[zv 186] 217)) w')=>HA.out w' (Hal2.out.trans (h.mono Hal2.out.size)) 4 (by omega));have HBr:=hid (fun w' (h:Below (wr.alloc (.cells #[zv 186] 217)).heap.size (wr.alloc (.cells #[zv 186] 217)) w')=>HB.out w' (Hal2.out.trans (h.mono Hal2.out.size)) 4 (by omega));have HX:=hid (fun w' (h:Below (wr.alloc (.cells #[zv 186] 217)).heap.size (wr.alloc (.cells #[zv 186] 217)) w')=>show w'.cell? ⟨wr.heap.size,0,none⟩=some (.func (.func 186) #[] #[]) from(h.cell (p:=⟨wr.heap.size,0,none⟩) (by simp)).trans (zu (i:=0) (z7 rfl) rfl));generalize zn a 4=xa at*;generalize zn b 4=xb at*;unfold zv at Hal2 HAr HBr HX;go_wp2_with (refine ji _ _ _ rfl rfl _ 4 5 217 _ _ rfl rfl Tryz.underlying218 (by omega) Tryz.underlying217 kn rfl ?_);generalize wr.alloc (.cells #[.func (.func 186) #[] #[]] 217)=wq at*;refine qi (by kernel_rfl) (by kernel_rfl) ?_
        repeat (go_big_quiet_step ((intro hw;first
         | rfl
         | (have y1:=HAr.out _ hw
            have y2:=HBr.out _ hw;have y3:=HX.out _ hw
            first
            | (go_at_call 186;refine(zjk _ _).mono ?_;rintro e w4 ⟨rfl,rfl⟩;exact⟨rfl,hw⟩)
            | (go_simp
               first | rfl | exact⟨rfl,hw⟩ | (trace_state;fail))))))
        refine wpQuiet_nil ?_;intro w3 hb3;go_wp2;go_ret;exact⟨by rw[Hx.out,Hr.out];rfl,Hal.out.trans ((Hal2.out.trans (hb3.mono Hal2.out.size)).mono Hal.out.size)⟩
      · have hd1:decide (zn b 4<zn a 4)=false:=decide_eq_false h;have Hr:=hid (ko ht.out (if_neg h));clear h hq;have Hal2:=hid (Hb.out.alloc Hb.out.size (.cells #[zv 186] 217));have HAr:=hid (fun w' (h:Below (wr.alloc (.cells #[zv 186] 217)).heap.size (wr.alloc (.cells #[zv 186] 217)) w')=>HA.out w' (Hal2.out.trans (h.mono Hal2.out.size)) 4 (by omega));have HBr:=hid (fun w' (h:Below (wr.alloc (.cells #[zv 186] 217)).heap.size (wr.alloc (.cells #[zv 186] 217)) w')=>HB.out w' (Hal2.out.trans (h.mono Hal2.out.size)) 4 (by omega));have HX:=hid (fun w' (h:Below (wr.alloc (.cells #[zv 186] 217)).heap.size (wr.alloc (.cells #[zv 186] 217)) w')=>show w'.cell? ⟨wr.heap.size,0,none⟩=some (.func (.func 186) #[] #[]) from(h.cell (p:=⟨wr.heap.size,0,none⟩) (by simp)).trans (zu (i:=0) (z7 rfl) rfl));generalize zn a 4=xa at*;generalize zn b 4=xb at*;unfold zv at Hal2 HAr HBr HX;go_wp2_with (refine ji _ _ _ rfl rfl _ 4 5 217 _ _ rfl rfl Tryz.underlying218 (by omega) Tryz.underlying217 kn rfl ?_);generalize wr.alloc (.cells #[.func (.func 186) #[] #[]] 217)=wq at*;refine qi (by kernel_rfl) (by kernel_rfl) ?_
        repeat (go_big_quiet_step ((intro hw;first
         | rfl
         | (have y1:=HAr.out _ hw
            have y2:=HBr.out _ hw;have y3:=HX.out _ hw
            first
            | (go_at_call 186;refine(zjk _ _).mono ?_;rintro e w4 ⟨rfl,rfl⟩;exact⟨rfl,hw⟩)
            | (go_simp
               first | rfl | exact⟨rfl,hw⟩ | (trace_state;fail))))))
        refine wpQuiet_nil ?_;intro w3 hb3;go_wp2;go_roundw
        case rel=>exact⟨5,by omega,by go_num,Hal2.out.trans (hb3.mono Hal2.out.size),Hr.out⟩
        case measure=>simp[intOf]
  · obtain rfl:q=5:=by omega
    have Hr:=hid (k7 ht.out);go_wp2;go_ret;exact⟨by rw[Hx.out,Hr.out];rfl,Hal.out.trans (Hb.out.mono Hal.out.size)⟩
theorem zyl (a b:Lim) (w:World):
 Calls Tryz.prog 41 #[je a,je b] w fun x w'=>x=.returned (.bool (decide (zbe a b=none)))∧Below w.heap.size w w':=by
 have Hal:=hid (show Below w.heap.size w ((w.alloc (.cells #[.int .i64 a.1,.int .i64 a.2.1,.int .i64 a.2.2.1,.int .i64 a.2.2.2.1,.int .i64 a.2.2.2.2] 42)).alloc (.cells #[.int .i64 b.1,.int .i64 b.2.1,.int .i64 b.2.2.1,.int .i64 b.2.2.2.1,.int .i64 b.2.2.2.2] 42)) from((Below.refl _ _).alloc (Nat.le_refl _) _).alloc (by simp) _);have hC:=hid (fun w=>zyk a b w);unfold je at hC ⊢
 cases h:zbe a b with
 | none=>
  rw[h] at hC;simp only[zax] at hC;clear h;go_enter Tryz.func41,Tryz.ntmps41;go_wp2_with fail;refine(hC.out _).mono ?_;rintro e w1 ⟨rfl,hb1⟩;have Hb1:=hid (Hal.out.trans (hb1.mono Hal.out.size));clear hb1;go_wp2;go_ret
  exact⟨by simp,Hb1.out⟩
 | some i=>
  rw[h] at hC;simp only[zax] at hC;have hd:decide ((i:Int)<0)=false:=by rw[decide_eq_false_iff_not];omega
  clear h;go_enter Tryz.func41,Tryz.ntmps41;go_wp2_with fail;refine(hC.out _).mono ?_;rintro e w1 ⟨rfl,hb1⟩;have Hb1:=hid (Hal.out.trans (hb1.mono Hal.out.size));clear hb1;go_wp2;go_ret;exact⟨by simp,Hb1.out⟩
end
section
theorem zpu {a b:Lim}:zbe a b=none↔∀i,i<5→zn a i≤zn b i:=by
 unfold zbe;constructor
 · intro h i hi;have:=List.findSome?_eq_none_iff.1 h i (List.mem_range.2 hi);split at this
   · cases this
   · omega
 · intro h;exact k7 fun i hi=>if_neg (by have:=h i hi;omega)
end
section
open Go.RowKit
attribute [local go_sem] vq
def zpv (a:Lim):Err:=yj ((zhf a).map fun i=>(8,i))
set_option maxRecDepth 100000 in
theorem yb4 (a:Lim) (w:World):Calls Tryz.prog 77 #[je a] w fun x w'=>x=.returned (yl (zpv a))∧Below w.heap.size w w':=by
 have HA:=hid (zma w a 42);have Hal:=hid (show Below w.heap.size w (w.alloc (.cells #[.int .i64 a.1,.int .i64 a.2.1,.int .i64 a.2.2.1,.int .i64 a.2.2.2.1,.int .i64 a.2.2.2.2] 42)) from(Below.refl _ _).alloc (Nat.le_refl _) _);have Hx:=hid (show zpv a=yj ((qj (fun i=>if zn a i<0 then some i else none) 5).map fun i=>(8,i)) from rfl);unfold je;go_enter Tryz.func77,Tryz.ntmps77;go_wp2_with fail;generalize hW:w.alloc (.cells #[.int .i64 a.1,.int .i64 a.2.1,.int .i64 a.2.2.1,.int .i64 a.2.2.2.1,.int .i64 a.2.2.2.2] 42)=W at*;clear hW;refine(zpt _).mono ?_;rintro e w1 ⟨rfl,hb1⟩;have Hb1:=hid hb1;clear hb1;unfold zjf zv;go_wp2;go_loopw [3,4,6] (fun _ _ i wr=>∃q:Nat,q≤5∧i=.int .i64 q∧Below W.heap.size W wr∧Hid (∀j,j<q→(if zn a j<0 then some j else none)=none)) (fun _ _ i _=>5 - (intOf i).toNat)
 case atStart=>exact⟨0,by omega,rfl,Hb1.out,fun j h=>by omega⟩
 case round=>
  obtain⟨q,hq5,rfl,hb,ht⟩:=hrel;have Hb:=hid hb;clear hb;by_cases hq:q<5
  · rcases(by omega:q=0∨q=1∨q=2∨q=3∨q=4) with rfl | rfl | rfl | rfl | rfl
    · by_cases h:zn a 0<0
      · have hd1:decide (zn a 0<0)=true:=decide_eq_true h;have Hr:=hid (jg (show 0<5 by omega) ht.out (if_pos h));clear h hq;have Hal2:=hid (Hb.out.alloc Hb.out.size (.cells #[.func (.func 182) #[] #[]] 217));have y1:=HA.out _ Hal2.out 0 (by omega);generalize zn a 0=xa at*;go_wp2_with (refine ji _ _ _ rfl rfl _ 0 5 217 _ _ rfl rfl Tryz.underlying218 (by omega) Tryz.underlying217 kn rfl ?_);generalize wr.alloc (.cells #[.func (.func 182) #[] #[]] 217)=wq at*;refine(zjg _ _).mono ?_;rintro e w4 ⟨rfl,rfl⟩;go_wp2_with fail;refine(zaf 8 (0:Nat) _).mono ?_;rintro e w5 ⟨rfl,rfl⟩;go_wp2;go_ret;exact⟨by rw[Hx.out,Hr.out];rfl,Hal.out.trans (Hal2.out.mono Hal.out.size)⟩
      · have hd1:decide (zn a 0<0)=false:=decide_eq_false h;have Hr:=hid (ko ht.out (if_neg h));clear h hq;have Hal2:=hid (Hb.out.alloc Hb.out.size (.cells #[.func (.func 182) #[] #[]] 217));have y1:=HA.out _ Hal2.out 0 (by omega);generalize zn a 0=xa at*;go_wp2_with (refine ji _ _ _ rfl rfl _ 0 5 217 _ _ rfl rfl Tryz.underlying218 (by omega) Tryz.underlying217 kn rfl ?_);generalize wr.alloc (.cells #[.func (.func 182) #[] #[]] 217)=wq at*;refine(zjg _ _).mono ?_;rintro e w4 ⟨rfl,rfl⟩;go_wp2;go_roundw
        case rel=>exact⟨1,by omega,by go_num,Hal2.out,Hr.out⟩
        case measure=>simp[intOf]
    · by_cases h:zn a 1<0
      · have hd1:decide (zn a 1<0)=true:=decide_eq_true h;have Hr:=hid (jg (show 1<5 by omega) ht.out (if_pos h));clear h hq;have Hal2:=hid (Hb.out.alloc Hb.out.size (.cells #[.func (.func 183) #[] #[]] 217));have y1:=HA.out _ Hal2.out 1 (by omega);generalize zn a 1=xa at*;go_wp2_with (refine ji _ _ _ rfl rfl _ 1 5 217 _ _ rfl rfl Tryz.underlying218 (by omega) Tryz.underlying217 kn rfl ?_);generalize wr.alloc (.cells #[.func (.func 183) #[] #[]] 217)=wq at*;refine(zjh _ _).mono ?_;rintro e w4 ⟨rfl,rfl⟩;go_wp2_with fail;refine(zaf 8 (1:Nat) _).mono ?_;rintro e w5 ⟨rfl,rfl⟩;go_wp2;go_ret;exact⟨by rw[Hx.out,Hr.out];rfl,Hal.out.trans (Hal2.out.mono Hal.out.size)⟩
      · have hd1:decide (zn a 1<0)=false:=decide_eq_false h;have Hr:=hid (ko ht.out (if_neg h));clear h hq;have Hal2:=hid (Hb.out.alloc Hb.out.size (.cells #[.func (.func 183) #[] #[]] 217));have y1:=HA.out _ Hal2.out 1 (by omega);generalize zn a 1=xa at*;go_wp2_with (refine ji _ _ _ rfl rfl _ 1 5 217 _ _ rfl rfl Tryz.underlying218 (by omega) Tryz.underlying217 kn rfl ?_);generalize wr.alloc (.cells #[.func (.func 183) #[] #[]] 217)=wq at*;refine(zjh _ _).mono ?_;rintro e w4 ⟨rfl,rfl⟩;go_wp2;go_roundw
        case rel=>exact⟨2,by omega,by go_num,Hal2.out,Hr.out⟩
        case measure=>simp[intOf]
    · by_cases h:zn a 2<0
      · have hd1:decide (zn a 2<0)=true:=decide_eq_true h;have Hr:=hid (jg (show 2<5 by omega) ht.out (if_pos h));clear h hq;have Hal2:=hid (Hb.out.alloc Hb.out.size (.cells #[.func (.func 184) #[] #[]] 217));have y1:=HA.out _ Hal2.out 2 (by omega);generalize zn a 2=xa at*;go_wp2_with (refine ji _ _ _ rfl rfl _ 2 5 217 _ _ rfl rfl Tryz.underlying218 (by omega) Tryz.underlying217 kn rfl ?_);generalize wr.alloc (.cells #[.func (.func 184) #[] #[]] 217)=wq at*;refine(zji _ _).mono ?_;rintro e w4 ⟨rfl,rfl⟩;go_wp2_with fail;refine(zaf 8 (2:Nat) _).mono ?_;rintro e w5 ⟨rfl,rfl⟩;go_wp2;go_ret;exact⟨by rw[Hx.out,Hr.out];rfl,Hal.out.trans (Hal2.out.mono Hal.out.size)⟩
      · have hd1:decide (zn a 2<0)=false:=decide_eq_false h;have Hr:=hid (ko ht.out (if_neg h));clear h hq;have Hal2:=hid (Hb.out.alloc Hb.out.size (.cells #[.func (.func 184) #[] #[]] 217));have y1:=HA.out _ Hal2.out 2 (by omega);generalize zn a 2=xa at*;go_wp2_with (refine ji _ _ _ rfl rfl _ 2 5 217 _ _ rfl rfl Tryz.underlying218 (by omega) Tryz.underlying217 kn rfl ?_);generalize wr.alloc (.cells #[.func (.func 184) #[] #[]] 217)=wq at*;refine(zji _ _).mono ?_;rintro e w4 ⟨rfl,rfl⟩;go_wp2;go_roundw
        case rel=>exact⟨3,by omega,by go_num,Hal2.out,Hr.out⟩
        case measure=>simp[intOf]
    · by_cases h:zn a 3<0
      · have hd1:decide (zn a 3<0)=true:=decide_eq_true h;have Hr:=hid (jg (show 3<5 by omega) ht.out (if_pos h));clear h hq;have Hal2:=hid (Hb.out.alloc Hb.out.size (.cells #[.func (.func 185) #[] #[]] 217));have y1:=HA.out _ Hal2.out 3 (by omega);generalize zn a 3=xa at*;go_wp2_with (refine ji _ _ _ rfl rfl _ 3 5 217 _ _ rfl rfl Tryz.underlying218 (by omega) Tryz.underlying217 kn rfl ?_);generalize wr.alloc (.cells #[.func (.func 185) #[] #[]] 217)=wq at*;refine(zjj _ _).mono ?_;rintro e w4 ⟨rfl,rfl⟩;go_wp2_with fail;refine(zaf 8 (3:Nat) _).mono ?_;rintro e w5 ⟨rfl,rfl⟩;go_wp2;go_ret;exact⟨by rw[Hx.out,Hr.out];rfl,Hal.out.trans (Hal2.out.mono Hal.out.size)⟩
      · have hd1:decide (zn a 3<0)=false:=decide_eq_false h;have Hr:=hid (ko ht.out (if_neg h));clear h hq;have Hal2:=hid (Hb.out.alloc Hb.out.size (.cells #[.func (.func 185) #[] #[]] 217));have y1:=HA.out _ Hal2.out 3 (by omega);generalize zn a 3=xa at*;go_wp2_with (refine ji _ _ _ rfl rfl _ 3 5 217 _ _ rfl rfl Tryz.underlying218 (by omega) Tryz.underlying217 kn rfl ?_);generalize wr.alloc (.cells #[.func (.func 185) #[] #[]] 217)=wq at*;refine(zjj _ _).mono ?_;rintro e w4 ⟨rfl,rfl⟩;go_wp2;go_roundw
        case rel=>exact⟨4,by omega,by go_num,Hal2.out,Hr.out⟩
        case measure=>simp[intOf]
    · by_cases h:zn a 4<0
      · have hd1:decide (zn a 4<0)=true:=decide_eq_true h;have Hr:=hid (jg (show 4<5 by omega) ht.out (if_pos h));clear h hq;have Hal2:=hid (Hb.out.alloc Hb.out.size (.cells #[.func (.func 186) #[] #[]] 217));have y1:=HA.out _ Hal2.out 4 (by omega);generalize zn a 4=xa at*;go_wp2_with (refine ji _ _ _ rfl rfl _ 4 5 217 _ _ rfl rfl Tryz.underlying218 (by omega) Tryz.underlying217 kn rfl ?_);generalize wr.alloc (.cells #[.func (.func 186) #[] #[]] 217)=wq at*;refine(zjk _ _).mono ?_;rintro e w4 ⟨rfl,rfl⟩;go_wp2_with fail;refine(zaf 8 (4:Nat) _).mono ?_;rintro e w5 ⟨rfl,rfl⟩;go_wp2;go_ret;exact⟨by rw[Hx.out,Hr.out];rfl,Hal.out.trans (Hal2.out.mono Hal.out.size)⟩
      · have hd1:decide (zn a 4<0)=false:=decide_eq_false h;have Hr:=hid (ko ht.out (if_neg h));clear h hq;have Hal2:=hid (Hb.out.alloc Hb.out.size (.cells #[.func (.func 186) #[] #[]] 217));have y1:=HA.out _ Hal2.out 4 (by omega);generalize zn a 4=xa at*;go_wp2_with (refine ji _ _ _ rfl rfl _ 4 5 217 _ _ rfl rfl Tryz.underlying218 (by omega) Tryz.underlying217 kn rfl ?_);generalize wr.alloc (.cells #[.func (.func 186) #[] #[]] 217)=wq at*;refine(zjk _ _).mono ?_;rintro e w4 ⟨rfl,rfl⟩;go_wp2;go_roundw
        case rel=>exact⟨5,by omega,by go_num,Hal2.out,Hr.out⟩
        case measure=>simp[intOf]
  · obtain rfl:q=5:=by omega
    have Hr:=hid (k7 ht.out);go_wp2;go_ret;exact⟨by rw[Hx.out,Hr.out];rfl,Hal.out.trans (Hb.out.mono Hal.out.size)⟩
end
end Go.Proofs.YtdnjfnofjaoajaaGreatDoor
