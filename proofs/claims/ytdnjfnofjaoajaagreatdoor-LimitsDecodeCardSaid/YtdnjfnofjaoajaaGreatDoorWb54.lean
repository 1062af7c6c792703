/- Walks and laws, joined: Wb54. -/
import Derived.Test.YtdnjfnofjaoajaaGreatDoorWb53
import Derived.Test.YtdnjfnofjaoajaaGreatDoorWb29
set_option linter.unusedVariables false
set_option maxHeartbeats 16000000
namespace Go.Proofs.YtdnjfnofjaoajaaGreatDoor
open Lib (hid)
section
open Go.RowKit
def vp (f:Nat→Nat):Nat→Nat
 | 0=>0
 | d+1=>max (vp f d) (f d)
def zbw (v:Vec):Nat:=vp (fun i=>(zc v i).2.2.length) v.length
def qv (c:Kno):Lim:=(((zo (zk c)).length:Nat),(c.length:Nat),(vp (fun i=>(za c i).2.length) c.length:Nat),(vp (fun i=>zbw (za c i).2) c.length:Nat),((zj c).length:Nat))
theorem yb5 (er mx:Nat) (x:Option Addr) (m c:Nat) (w:World):Calls Tryz.prog 82 #[.agg #[.int .u64 er,.int .u64 mx,.slice x m c]] w fun e w'=>e=.returned (.int .i64 m)∧Below w.heap.size w w':=by
 go_enter Tryz.func82,Tryz.ntmps82;go_wp2;go_ret;exact⟨rfl,(Below.refl _ _).alloc (Nat.le_refl _) _⟩
theorem yb6 (x y:Option Addr) (m c m' c':Nat) (w:World):Calls Tryz.prog 79 #[.agg #[.slice x m c,.slice y m' c']] w fun e w'=>e=.returned (.int .i64 m')∧Below w.heap.size w w':=by
 go_enter Tryz.func79,Tryz.ntmps79;go_wp2;go_ret;exact⟨rfl,(Below.refl _ _).alloc (Nat.le_refl _) _⟩
set_option maxRecDepth 20000 in
theorem yb7 (a:Option Addr) (n c:Nat) (v:Vec) (w:World) (hE:Ents w a n c v):Calls Tryz.prog 81 #[.slice a n c,.func (.func 82) #[] #[]] w fun e w'=>e=.returned (.int .i64 ((zbw v:Nat):Int))∧Below w.heap.size w w':=by
 have HE:=hid hE;have hm:n≤9223372036854775807:=Nat.le_trans hE.room hE.most;have Hh:=hid (show zbw v=vp (fun i=>(zc v i).2.2.length) n from by unfold zbw;rw[hE.len]);clear hE;go_enter Tryz.func81,Tryz.ntmps81;go_wp2;go_loopw [5,7,10] (fun o _ i wr=>∃d:Nat,d≤n∧i=.int .i64 d∧o=.int .i64 ((vp (fun i=>(zc v i).2.2.length) d:Nat):Int)∧Below w.heap.size w wr) (fun _ _ i _=>n - (intOf i).toNat)
 case atStart=>exact⟨0,by omega,rfl,rfl,Below.refl _ _⟩
 case round=>
  obtain⟨d,hd,rfl,rfl,hb⟩:=hrel;have Hb:=hid hb;clear hb;by_cases hdn:d<n
  · obtain⟨bb,oo,rfl⟩:=HE.out.some (by omega);obtain⟨x,m,c',hq⟩:=HE.out.fix hdn;obtain⟨q1,q2,q3,hI⟩:=hq _ Hb.out;have Hml:=hid (show vp (fun i=>(zc v i).2.2.length) (d+1)=max (vp (fun i=>(zc v i).2.2.length) d) m from by rw[vp,hI.len]);have h0:(0:Int)≤d:=by omega
    have h04:(d:Int)<(n:Int):=by omega
    clear hq hI;generalize zc v d=e at*;obtain⟨er,mx,eh⟩:=e;simp only at q1 q2 q3;generalize vp (fun i=>(zc v i).2.2.length) d=p at*;have Hal:=hid (Hb.out.alloc Hb.out.size (.cells #[.int .u64 er,.int .u64 mx,.slice x m c'] 101));go_wp2_with fail;refine(yb5 er mx x m c' _).mono ?_;rintro e w1 ⟨rfl,hb1⟩;have Hb1:=hid (Hal.out.trans (hb1.mono Hal.out.size));clear hb1;go_wp2;go_roundw
    case rel=>exact⟨d+1,by omega,by go_num,by rw[Hml.out];congr 1;omega,Hb1.out⟩
    case measure=>simp[intOf];omega
  · obtain rfl:d=n:=by omega
    go_wp2;go_ret;exact⟨by rw[Hh.out];rfl,Hb.out⟩
set_option maxRecDepth 20000 in
theorem yb8 (x y:Option Addr) (m c m' c':Nat) (v:Vec) (w:World) (hE:Ents w y m' c' v):Calls Tryz.prog 80 #[.agg #[.slice x m c,.slice y m' c']] w fun e w'=>e=.returned (.int .i64 ((zbw v:Nat):Int))∧Below w.heap.size w w':=by
 have hal:Below w.heap.size w (w.alloc (.cells #[.slice x m c,.slice y m' c'] 85)):=(Below.refl _ _).alloc (Nat.le_refl _) _;have HC:=hid (yb7 y m' c' v _ (hE.below hal));have Hal:=hid hal;clear hE hal;go_enter Tryz.func80,Tryz.ntmps80;go_wp2_with fail;refine HC.out.mono ?_;rintro e w1 ⟨rfl,hb1⟩;have Hb1:=hid (Hal.out.trans (hb1.mono Hal.out.size));clear hb1;go_wp2;go_ret;exact⟨rfl,Hb1.out⟩
set_option maxRecDepth 20000 in
theorem yb9 (a:Option Addr) (n c:Nat) (k:Kno) (w:World) (hE:Frags w a n c k):Calls Tryz.prog 78 #[.slice a n c,.func (.func 79) #[] #[]] w fun e w'=>e=.returned (.int .i64 ((vp (fun i=>(za k i).2.length) n:Nat):Int))∧Below w.heap.size w w':=by
 have HE:=hid hE;have hm:n≤9223372036854775807:=Nat.le_trans hE.room hE.most;clear hE;go_enter Tryz.func78,Tryz.ntmps78;go_wp2;go_loopw [5,7,10] (fun o _ i wr=>∃d:Nat,d≤n∧i=.int .i64 d∧o=.int .i64 ((vp (fun i=>(za k i).2.length) d:Nat):Int)∧Below w.heap.size w wr) (fun _ _ i _=>n - (intOf i).toNat)
 case atStart=>exact⟨0,by omega,rfl,rfl,Below.refl _ _⟩
 case round=>
  obtain⟨d,hd,rfl,rfl,hb⟩:=hrel;have Hb:=hid hb;clear hb;by_cases hdn:d<n
  · obtain⟨bb,oo,rfl⟩:=HE.out.some (by omega);obtain⟨x,m,cx,y,m',c',hq⟩:=HE.out.fix hdn;obtain⟨q1,-,q3,hV⟩:=hq _ Hb.out;have Hml:=hid (show vp (fun i=>(za k i).2.length) (d+1)=max (vp (fun i=>(za k i).2.length) d) (m') from by rw[vp,hV.len]);have h0:(0:Int)≤d:=by omega
    have h04:(d:Int)<(n:Int):=by omega
    have hal:Below wr.heap.size wr (wr.alloc (.cells #[.slice x m cx,.slice y m' c'] 85)):=(Below.refl _ _).alloc (Nat.le_refl _) _;have Hal:=hid (Hb.out.trans (hal.mono Hb.out.size));have HC:=hid (yb6 x y m cx m' c' (wr.alloc (.cells #[.slice x m cx,.slice y m' c'] 85)));clear hq hV hal;generalize vp (fun i=>(za k i).2.length) d=p at*;go_wp2_with fail;refine HC.out.mono ?_;rintro e w1 ⟨rfl,hb1⟩;have Hb1:=hid (Hal.out.trans (hb1.mono Hal.out.size));clear hb1;go_wp2;go_roundw
    case rel=>exact⟨d+1,by omega,by go_num,by rw[Hml.out];congr 1;omega,Hb1.out⟩
    case measure=>simp[intOf];omega
  · obtain rfl:d=n:=by omega
    go_wp2;go_ret;exact⟨rfl,Hb.out⟩
set_option maxRecDepth 20000 in
theorem yca (a:Option Addr) (n c:Nat) (k:Kno) (w:World) (hE:Frags w a n c k):Calls Tryz.prog 78 #[.slice a n c,.func (.func 80) #[] #[]] w fun e w'=>e=.returned (.int .i64 ((vp (fun i=>zbw (za k i).2) n:Nat):Int))∧Below w.heap.size w w':=by
 have HE:=hid hE;have hm:n≤9223372036854775807:=Nat.le_trans hE.room hE.most;clear hE;go_enter Tryz.func78,Tryz.ntmps78;go_wp2;go_loopw [5,7,10] (fun o _ i wr=>∃d:Nat,d≤n∧i=.int .i64 d∧o=.int .i64 ((vp (fun i=>zbw (za k i).2) d:Nat):Int)∧Below w.heap.size w wr) (fun _ _ i _=>n - (intOf i).toNat)
 case atStart=>exact⟨0,by omega,rfl,rfl,Below.refl _ _⟩
 case round=>
  obtain⟨d,hd,rfl,rfl,hb⟩:=hrel;have Hb:=hid hb;clear hb;by_cases hdn:d<n
  · obtain⟨bb,oo,rfl⟩:=HE.out.some (by omega);obtain⟨x,m,cx,y,m',c',hq⟩:=HE.out.fix hdn;obtain⟨q1,-,q3,hV⟩:=hq _ Hb.out;have Hml:=hid (show vp (fun i=>zbw (za k i).2) (d+1)=max (vp (fun i=>zbw (za k i).2) d) (zbw (za k d).2) from by rw[vp]);have h0:(0:Int)≤d:=by omega
    have h04:(d:Int)<(n:Int):=by omega
    have hal:Below wr.heap.size wr (wr.alloc (.cells #[.slice x m cx,.slice y m' c'] 85)):=(Below.refl _ _).alloc (Nat.le_refl _) _;have Hal:=hid (Hb.out.trans (hal.mono Hb.out.size));have HC:=hid (yb8 x y m cx m' c' (za k d).2 _ (hV.below hal));clear hq hV hal;generalize vp (fun i=>zbw (za k i).2) d=p at*;generalize zbw (za k d).2=z at*;go_wp2_with fail;refine HC.out.mono ?_;rintro e w1 ⟨rfl,hb1⟩;have Hb1:=hid (Hal.out.trans (hb1.mono Hal.out.size));clear hb1;go_wp2;go_roundw
    case rel=>exact⟨d+1,by omega,by go_num,by rw[Hml.out];congr 1;omega,Hb1.out⟩
    case measure=>simp[intOf];omega
  · obtain rfl:d=n:=by omega
    go_wp2;go_ret;exact⟨rfl,Hb.out⟩
end
section
open Go.RowKit
attribute [local go_sem] vq
theorem zpw (g:Nat) (w:World):Calls Tryz.prog 182 #[.pointer (some ⟨g,0,none⟩)] w fun x w'=>x=.returned (.pointer (some ⟨g,0,none⟩))∧w'=w:=(zjg g w).mono fun e w' h=>⟨h.1,h.2.symm⟩
theorem zpx (g:Nat) (w:World):Calls Tryz.prog 183 #[.pointer (some ⟨g,0,none⟩)] w fun x w'=>x=.returned (.pointer (some ⟨g,1,none⟩))∧w'=w:=(zjh g w).mono fun e w' h=>⟨h.1,h.2.symm⟩
theorem zpy (g:Nat) (w:World):Calls Tryz.prog 184 #[.pointer (some ⟨g,0,none⟩)] w fun x w'=>x=.returned (.pointer (some ⟨g,2,none⟩))∧w'=w:=(zji g w).mono fun e w' h=>⟨h.1,h.2.symm⟩
theorem zpz (g:Nat) (w:World):Calls Tryz.prog 185 #[.pointer (some ⟨g,0,none⟩)] w fun x w'=>x=.returned (.pointer (some ⟨g,3,none⟩))∧w'=w:=(zjj g w).mono fun e w' h=>⟨h.1,h.2.symm⟩
theorem zp0 (g:Nat) (w:World):Calls Tryz.prog 186 #[.pointer (some ⟨g,0,none⟩)] w fun x w'=>x=.returned (.pointer (some ⟨g,4,none⟩))∧w'=w:=(zjk g w).mono fun e w' h=>⟨h.1,h.2.symm⟩
def zcl (a b:Lim):Nat→List Value
 | 0=>[.int .i64 a.1,.int .i64 a.2.1,.int .i64 a.2.2.1,.int .i64 a.2.2.2.1,.int .i64 a.2.2.2.2]
 | 1=>[.int .i64 (max a.1 b.1),.int .i64 a.2.1,.int .i64 a.2.2.1,.int .i64 a.2.2.2.1,.int .i64 a.2.2.2.2]
 | 2=>[.int .i64 (max a.1 b.1),.int .i64 (max a.2.1 b.2.1),.int .i64 a.2.2.1,.int .i64 a.2.2.2.1,.int .i64 a.2.2.2.2]
 | 3=>[.int .i64 (max a.1 b.1),.int .i64 (max a.2.1 b.2.1),.int .i64 (max a.2.2.1 b.2.2.1),.int .i64 a.2.2.2.1,.int .i64 a.2.2.2.2]
 | 4=>[.int .i64 (max a.1 b.1),.int .i64 (max a.2.1 b.2.1),.int .i64 (max a.2.2.1 b.2.2.1),.int .i64 (max a.2.2.2.1 b.2.2.2.1),.int .i64 a.2.2.2.2]
 | _=>[.int .i64 (max a.1 b.1),.int .i64 (max a.2.1 b.2.1),.int .i64 (max a.2.2.1 b.2.2.1),.int .i64 (max a.2.2.2.1 b.2.2.2.1),.int .i64 (max a.2.2.2.2 b.2.2.2.2)]
def sl1 (g:Nat):Value:=.slice (some ⟨g,0,none⟩) 1 1
theorem zdz {w:World} {base sz n g j:Nat} {e:TypeId} {h:Nat} {xs:List Value} {u:Value} (ho:w.ownsRow base e sz (sl1 h) n xs) (hg:h≠g):(w.setCell ⟨g,j,none⟩ u).ownsRow base e sz (sl1 h) n xs:=
 zaz ho fun k hk=>Below.heap_setCell _ _ _ _ (by
  have:h=k:=by simpa [sl1,Value.ownBlock] using hk
  subst this;exact hg)
set_option maxRecDepth 100000 in
theorem ycb (a b:Lim) (w:World):Calls Tryz.prog 76 #[je a,je b] w fun x w'=>x=.returned (je (zl9 a b))∧Below w.heap.size w w':=by
 have hal:Below w.heap.size w (((w.alloc (.cells #[.int .i64 a.1,.int .i64 a.2.1,.int .i64 a.2.2.1,.int .i64 a.2.2.2.1,.int .i64 a.2.2.2.2] 42)).alloc (.cells #[.int .i64 b.1,.int .i64 b.2.1,.int .i64 b.2.2.1,.int .i64 b.2.2.2.1,.int .i64 b.2.2.2.2] 42)).alloc (.cells #[.int .i64 0,.int .i64 0,.int .i64 0,.int .i64 0,.int .i64 0] 42)):=(((Below.refl _ _).alloc (Nat.le_refl _) _).alloc (by simp) _).alloc (by simp only[World.size_alloc];omega) _
 have hA:(((w.alloc (.cells #[.int .i64 a.1,.int .i64 a.2.1,.int .i64 a.2.2.1,.int .i64 a.2.2.2.1,.int .i64 a.2.2.2.2] 42)).alloc (.cells #[.int .i64 b.1,.int .i64 b.2.1,.int .i64 b.2.2.1,.int .i64 b.2.2.2.1,.int .i64 b.2.2.2.2] 42)).alloc (.cells #[.int .i64 0,.int .i64 0,.int .i64 0,.int .i64 0,.int .i64 0] 42)).ownsRow w.heap.size 42 5 (sl1 w.heap.size) 1 (zcl a b 0):=
  ((World.ownsRow_lit (e:=42) (size:=5) (base:=w.heap.size) w #[.int .i64 a.1,.int .i64 a.2.1,.int .i64 a.2.2.1,.int .i64 a.2.2.2.1,.int .i64 a.2.2.2.2] 1 (Nat.le_refl _) (by unfold maxLen;omega) rfl).alloc _).alloc _
 have hB:(((w.alloc (.cells #[.int .i64 a.1,.int .i64 a.2.1,.int .i64 a.2.2.1,.int .i64 a.2.2.2.1,.int .i64 a.2.2.2.2] 42)).alloc (.cells #[.int .i64 b.1,.int .i64 b.2.1,.int .i64 b.2.2.1,.int .i64 b.2.2.2.1,.int .i64 b.2.2.2.2] 42)).alloc (.cells #[.int .i64 0,.int .i64 0,.int .i64 0,.int .i64 0,.int .i64 0] 42)).ownsRow w.heap.size 42 5 (sl1 (w.heap.size+1)) 1 (#[.int .i64 b.1,.int .i64 b.2.1,.int .i64 b.2.2.1,.int .i64 b.2.2.2.1,.int .i64 b.2.2.2.2]:Array Value).toList:=by
  have:=(World.ownsRow_lit (e:=42) (size:=5) (base:=w.heap.size) (w.alloc (.cells #[.int .i64 a.1,.int .i64 a.2.1,.int .i64 a.2.2.1,.int .i64 a.2.2.2.1,.int .i64 a.2.2.2.2] 42)) #[.int .i64 b.1,.int .i64 b.2.1,.int .i64 b.2.2.1,.int .i64 b.2.2.2.1,.int .i64 b.2.2.2.2] 1 (by simp) (by unfold maxLen;omega) rfl).alloc (.cells #[.int .i64 0,.int .i64 0,.int .i64 0,.int .i64 0,.int .i64 0] 42);rwa [World.size_alloc] at this
 have hR:(((w.alloc (.cells #[.int .i64 a.1,.int .i64 a.2.1,.int .i64 a.2.2.1,.int .i64 a.2.2.2.1,.int .i64 a.2.2.2.2] 42)).alloc (.cells #[.int .i64 b.1,.int .i64 b.2.1,.int .i64 b.2.2.1,.int .i64 b.2.2.2.1,.int .i64 b.2.2.2.2] 42)).alloc (.cells #[.int .i64 0,.int .i64 0,.int .i64 0,.int .i64 0,.int .i64 0] 42)).ownsRow w.heap.size 42 5 (sl1 (w.heap.size+2)) 1 (#[.int .i64 0,.int .i64 0,.int .i64 0,.int .i64 0,.int .i64 0]:Array Value).toList:=by
  have:=World.ownsRow_lit (e:=42) (size:=5) (base:=w.heap.size) ((w.alloc (.cells #[.int .i64 a.1,.int .i64 a.2.1,.int .i64 a.2.2.1,.int .i64 a.2.2.2.1,.int .i64 a.2.2.2.2] 42)).alloc (.cells #[.int .i64 b.1,.int .i64 b.2.1,.int .i64 b.2.2.1,.int .i64 b.2.2.2.1,.int .i64 b.2.2.2.2] 42)) #[.int .i64 0,.int .i64 0,.int .i64 0,.int .i64 0,.int .i64 0] 1 (by simp only[World.size_alloc];omega) (by unfold maxLen;omega) rfl;rwa [World.size_alloc,World.size_alloc] at this
 have Hal:=hid hal;have HA:=hid hA;have HB:=hid hB;have HR:=hid hR;have Hj:=hid (show je (zl9 a b)=.agg (zcl a b 5).toArray from rfl);unfold je;clear hal hA hB hR;go_enter Tryz.func76,Tryz.ntmps76;go_wp2_with fail;generalize ((w.alloc (.cells #[.int .i64 a.1,.int .i64 a.2.1,.int .i64 a.2.2.1,.int .i64 a.2.2.2.1,.int .i64 a.2.2.2.2] 42)).alloc (.cells #[.int .i64 b.1,.int .i64 b.2.1,.int .i64 b.2.2.1,.int .i64 b.2.2.2.1,.int .i64 b.2.2.2.2] 42)).alloc (.cells #[.int .i64 0,.int .i64 0,.int .i64 0,.int .i64 0,.int .i64 0] 42)=W at*;refine(zpt _).mono ?_;rintro e w1 ⟨rfl,hb1⟩;have Hb1:=hid (Hal.out.trans (hb1.mono Hal.out.size));have HA1:=hid (zm HA.out hb1);have HB1:=hid (zm HB.out hb1);have HR1:=hid (zm HR.out hb1);clear hb1 HA HB HR;unfold zjf zv;go_wp2;go_loopw [6,8] (fun _ i wr=>∃q:Nat,q≤5∧i=.int .i64 q∧Below w.heap.size w wr∧Hid (wr.ownsRow w.heap.size 42 5 (sl1 w.heap.size) 1 (zcl a b q))∧Hid (wr.ownsRow w.heap.size 42 5 (sl1 (w.heap.size+1)) 1 (#[.int .i64 b.1,.int .i64 b.2.1,.int .i64 b.2.2.1,.int .i64 b.2.2.2.1,.int .i64 b.2.2.2.2]:Array Value).toList)∧Hid (wr.ownsRow w.heap.size 42 5 (sl1 (w.heap.size+2)) 1 (#[.int .i64 0,.int .i64 0,.int .i64 0,.int .i64 0,.int .i64 0]:Array Value).toList)) (fun _ i _=>5 - (intOf i).toNat)
 case atStart=>exact⟨0,by omega,rfl,Hb1.out,HA1,HB1,HR1⟩
 case round=>
  obtain⟨q,hq5,rfl,hb,hoA,hoB,hoR⟩:=hrel;have Hb:=hid hb;clear hb HA1 HB1 HR1 Hb1;by_cases hq:q<5
  · rcases(by omega:q=0∨q=1∨q=2∨q=3∨q=4) with rfl | rfl | rfl | rfl | rfl
    · clear hq;have y1:=hoA.out.cells (g:=w.heap.size) rfl 0 _ rfl;have y2:=hoB.out.cells (g:=w.heap.size+1) rfl 0 _ rfl;have f1:=kj hoA.out 0;rw[yp,Nat.zero_add] at y1 y2;have hal:Below wr.heap.size wr (wr.alloc (.cells #[.func (.func 182) #[] #[]] 217)):=(Below.refl _ _).alloc (Nat.le_refl _) _;have x1:=(hal.cell (p:=⟨w.heap.size,0,none⟩) (ze y1)).trans y1;have x2:=(hal.cell (p:=⟨w.heap.size+1,0,none⟩) (ze y2)).trans y2;have HA2:=hid (zm hoA.out hal);have HB2:=hid (zm hoB.out hal);have HR2:=hid (zm hoR.out hal);have f2:=kj HA2.out 0;have x3:(wr.alloc (.cells #[.func (.func 182) #[] #[]] 217)).cell? ⟨wr.heap.size,0,none⟩=some (.func (.func 182) #[] #[]):=zu (i:=0) (z7 rfl) rfl;have Hb2:=hid (Hb.out.trans (hal.mono Hb.out.size));have HF:=hid (show (zcl a b 0).set 0 (.int .i64 (max a.1 b.1))=zcl a b 1 from rfl);clear hal hoA hoB hoR Hb y1 y2 f1;go_wp2_with (refine ji _ _ _ rfl rfl _ 0 5 217 _ _ rfl rfl Tryz.underlying218 (by omega) Tryz.underlying217 kn rfl ?_);generalize wr.alloc (.cells #[.func (.func 182) #[] #[]] 217)=wq at*;have z1:World.cell? { wq with drawn:=wq.drawn+1 } ⟨w.heap.size,0,none⟩=some (.int .i64 a.1):=x1;have z2:World.cell? { wq with drawn:=wq.drawn+1 } ⟨w.heap.size+1,0,none⟩=some (.int .i64 b.1):=x2;have z3:World.cell? { wq with drawn:=wq.drawn+1 } ⟨wr.heap.size,0,none⟩=some (.func (.func 182) #[] #[]):=x3;refine wp_region_still_tail 14 (by kernel_rfl) (by kernel_rfl) ?_;simp only[List.take_succ_cons,List.take_zero,List.drop_succ_cons,List.drop_zero]
      still_step
      still_step
      still_call (zpw _ _)
      still_step
      still_step
      still_call (zpw _ _)
      still_step
      still_step
      still_step
      still_step
      still_call (zpw _ _)
      still_step
      still_step
      still_step
      refine wpStill_nil ?_;change wpList _ _ _ _ _ wq.drew;all_goals go_wp2
      all_goals
       go_roundw
       case rel=>exact⟨1,by omega,by go_num,(Hb2.out.setCell (p:=⟨w.heap.size,0,none⟩) (Nat.le_refl _) _).drew,by rw[←HF.out];exact((HA2.out.stored 0 _).1).drew,(zdz HB2.out (by omega)).drew,(zdz HR2.out (by omega)).drew⟩
       case measure=>simp[intOf]
    · clear hq;have y1:=hoA.out.cells (g:=w.heap.size) rfl 1 _ rfl;have y2:=hoB.out.cells (g:=w.heap.size+1) rfl 1 _ rfl;have f1:=kj hoA.out 1;rw[yp,Nat.zero_add] at y1 y2;have hal:Below wr.heap.size wr (wr.alloc (.cells #[.func (.func 183) #[] #[]] 217)):=(Below.refl _ _).alloc (Nat.le_refl _) _;have x1:=(hal.cell (p:=⟨w.heap.size,1,none⟩) (ze y1)).trans y1;have x2:=(hal.cell (p:=⟨w.heap.size+1,1,none⟩) (ze y2)).trans y2;have HA2:=hid (zm hoA.out hal);have HB2:=hid (zm hoB.out hal);have HR2:=hid (zm hoR.out hal);have f2:=kj HA2.out 1;have x3:(wr.alloc (.cells #[.func (.func 183) #[] #[]] 217)).cell? ⟨wr.heap.size,0,none⟩=some (.func (.func 183) #[] #[]):=zu (i:=0) (z7 rfl) rfl;have Hb2:=hid (Hb.out.trans (hal.mono Hb.out.size));have HF:=hid (show (zcl a b 1).set 1 (.int .i64 (max a.2.1 b.2.1))=zcl a b 2 from rfl);clear hal hoA hoB hoR Hb y1 y2 f1;go_wp2_with (refine ji _ _ _ rfl rfl _ 1 5 217 _ _ rfl rfl Tryz.underlying218 (by omega) Tryz.underlying217 kn rfl ?_);generalize wr.alloc (.cells #[.func (.func 183) #[] #[]] 217)=wq at*;have z1:World.cell? { wq with drawn:=wq.drawn+1 } ⟨w.heap.size,1,none⟩=some (.int .i64 a.2.1):=x1;have z2:World.cell? { wq with drawn:=wq.drawn+1 } ⟨w.heap.size+1,1,none⟩=some (.int .i64 b.2.1):=x2;have z3:World.cell? { wq with drawn:=wq.drawn+1 } ⟨wr.heap.size,0,none⟩=some (.func (.func 183) #[] #[]):=x3;refine wp_region_still_tail 14 (by kernel_rfl) (by kernel_rfl) ?_;simp only[List.take_succ_cons,List.take_zero,List.drop_succ_cons,List.drop_zero]
      still_step
      still_step
      still_call (zpx _ _)
      still_step
      still_step
      still_call (zpx _ _)
      still_step
      still_step
      still_step
      still_step
      still_call (zpx _ _)
      still_step
      still_step
      still_step
      refine wpStill_nil ?_;change wpList _ _ _ _ _ wq.drew;all_goals go_wp2
      all_goals
       go_roundw
       case rel=>exact⟨2,by omega,by go_num,(Hb2.out.setCell (p:=⟨w.heap.size,1,none⟩) (Nat.le_refl _) _).drew,by rw[←HF.out];exact((HA2.out.stored 1 _).1).drew,(zdz HB2.out (by omega)).drew,(zdz HR2.out (by omega)).drew⟩
       case measure=>simp[intOf]
    · clear hq;have y1:=hoA.out.cells (g:=w.heap.size) rfl 2 _ rfl;have y2:=hoB.out.cells (g:=w.heap.size+1) rfl 2 _ rfl;have f1:=kj hoA.out 2;rw[yp,Nat.zero_add] at y1 y2;have hal:Below wr.heap.size wr (wr.alloc (.cells #[.func (.func 184) #[] #[]] 217)):=(Below.refl _ _).alloc (Nat.le_refl _) _;have x1:=(hal.cell (p:=⟨w.heap.size,2,none⟩) (ze y1)).trans y1;have x2:=(hal.cell (p:=⟨w.heap.size+1,2,none⟩) (ze y2)).trans y2;have HA2:=hid (zm hoA.out hal);have HB2:=hid (zm hoB.out hal);have HR2:=hid (zm hoR.out hal);have f2:=kj HA2.out 2;have x3:(wr.alloc (.cells #[.func (.func 184) #[] #[]] 217)).cell? ⟨wr.heap.size,0,none⟩=some (.func (.func 184) #[] #[]):=zu (i:=0) (z7 rfl) rfl;have Hb2:=hid (Hb.out.trans (hal.mono Hb.out.size));have HF:=hid (show (zcl a b 2).set 2 (.int .i64 (max a.2.2.1 b.2.2.1))=zcl a b 3 from rfl);clear hal hoA hoB hoR Hb y1 y2 f1;go_wp2_with (refine ji _ _ _ rfl rfl _ 2 5 217 _ _ rfl rfl Tryz.underlying218 (by omega) Tryz.underlying217 kn rfl ?_);generalize wr.alloc (.cells #[.func (.func 184) #[] #[]] 217)=wq at*;have z1:World.cell? { wq with drawn:=wq.drawn+1 } ⟨w.heap.size,2,none⟩=some (.int .i64 a.2.2.1):=x1;have z2:World.cell? { wq with drawn:=wq.drawn+1 } ⟨w.heap.size+1,2,none⟩=some (.int .i64 b.2.2.1):=x2;have z3:World.cell? { wq with drawn:=wq.drawn+1 } ⟨wr.heap.size,0,none⟩=some (.func (.func 184) #[] #[]):=x3;refine wp_region_still_tail 14 (by kernel_rfl) (by kernel_rfl) ?_;simp only[List.take_succ_cons,List.take_zero,List.drop_succ_cons,List.drop_zero]
      still_step
      still_step
      still_call (zpy _ _)
      still_step
      still_step
      still_call (zpy _ _)
      still_step
      still_step
      still_step
      still_step
      still_call (zpy _ _)
      still_step
      still_step
      still_step
      refine wpStill_nil ?_;change wpList _ _ _ _ _ wq.drew;all_goals go_wp2
      all_goals
       go_roundw
       case rel=>exact⟨3,by omega,by go_num,(Hb2.out.setCell (p:=⟨w.heap.size,2,none⟩) (Nat.le_refl _) _).drew,by rw[←HF.out];exact((HA2.out.stored 2 _).1).drew,(zdz HB2.out (by omega)).drew,(zdz HR2.out (by omega)).drew⟩
       case measure=>simp[intOf]
    · clear hq;have y1:=hoA.out.cells (g:=w.heap.size) rfl 3 _ rfl;have y2:=hoB.out.cells (g:=w.heap.size+1) rfl 3 _ rfl;have f1:=kj hoA.out 3;rw[yp,Nat.zero_add] at y1 y2;have hal:Below wr.heap.size wr (wr.alloc (.cells #[.func (.func 185) #[] #[]] 217)):=(Below.refl _ _).alloc (Nat.le_refl _) _;have x1:=(hal.cell (p:=⟨w.heap.size,3,none⟩) (ze y1)).trans y1;have x2:=(hal.cell (p:=⟨w.heap.size+1,3,none⟩) (ze y2)).trans y2;have HA2:=hid (zm hoA.out hal);have HB2:=hid (zm hoB.out hal);have HR2:=hid (zm hoR.out hal);have f2:=kj HA2.out 3;have x3:(wr.alloc (.cells #[.func (.func 185) #[] #[]] 217)).cell? ⟨wr.heap.size,0,none⟩=some (.func (.func 185) #[] #[]):=zu (i:=0) (z7 rfl) rfl;have Hb2:=hid (Hb.out.trans (hal.mono Hb.out.size));have HF:=hid (show (zcl a b 3).set 3 (.int .i64 (max a.2.2.2.1 b.2.2.2.1))=zcl a b 4 from rfl);clear hal hoA hoB hoR Hb y1 y2 f1;go_wp2_with (refine ji _ _ _ rfl rfl _ 3 5 217 _ _ rfl rfl Tryz.underlying218 (by omega) Tryz.underlying217 kn rfl ?_);generalize wr.alloc (.cells #[.func (.func 185) #[] #[]] 217)=wq at*;have z1:World.cell? { wq with drawn:=wq.drawn+1 } ⟨w.heap.size,3,none⟩=some (.int .i64 a.2.2.2.1):=x1;have z2:World.cell? { wq with drawn:=wq.drawn+1 } ⟨w.heap.size+1,3,none⟩=some (.int .i64 b.2.2.2.1):=x2;have z3:World.cell? { wq with drawn:=wq.drawn+1 } ⟨wr.heap.size,0,none⟩=some (.func (.func 185) #[] #[]):=x3;refine wp_region_still_tail 14 (by kernel_rfl) (by kernel_rfl) ?_;simp only[List.take_succ_cons,List.take_zero,List.drop_succ_cons,List.drop_zero]
      still_step
      still_step
      still_call (zpz _ _)
      still_step
      still_step
      still_call (zpz _ _)
      still_step
      still_step
      still_step
      still_step
      still_call (zpz _ _)
      still_step
      still_step
      still_step
      refine wpStill_nil ?_;change wpList _ _ _ _ _ wq.drew;all_goals go_wp2
      all_goals
       go_roundw
       case rel=>exact⟨4,by omega,by go_num,(Hb2.out.setCell (p:=⟨w.heap.size,3,none⟩) (Nat.le_refl _) _).drew,by rw[←HF.out];exact((HA2.out.stored 3 _).1).drew,(zdz HB2.out (by omega)).drew,(zdz HR2.out (by omega)).drew⟩
       case measure=>simp[intOf]
    · clear hq;have y1:=hoA.out.cells (g:=w.heap.size) rfl 4 _ rfl;have y2:=hoB.out.cells (g:=w.heap.size+1) rfl 4 _ rfl;have f1:=kj hoA.out 4;rw[yp,Nat.zero_add] at y1 y2;have hal:Below wr.heap.size wr (wr.alloc (.cells #[.func (.func 186) #[] #[]] 217)):=(Below.refl _ _).alloc (Nat.le_refl _) _;have x1:=(hal.cell (p:=⟨w.heap.size,4,none⟩) (ze y1)).trans y1;have x2:=(hal.cell (p:=⟨w.heap.size+1,4,none⟩) (ze y2)).trans y2;have HA2:=hid (zm hoA.out hal);have HB2:=hid (zm hoB.out hal);have HR2:=hid (zm hoR.out hal);have f2:=kj HA2.out 4;have x3:(wr.alloc (.cells #[.func (.func 186) #[] #[]] 217)).cell? ⟨wr.heap.size,0,none⟩=some (.func (.func 186) #[] #[]):=zu (i:=0) (z7 rfl) rfl;have Hb2:=hid (Hb.out.trans (hal.mono Hb.out.size));have HF:=hid (show (zcl a b 4).set 4 (.int .i64 (max a.2.2.2.2 b.2.2.2.2))=zcl a b 5 from rfl);clear hal hoA hoB hoR Hb y1 y2 f1;go_wp2_with (refine ji _ _ _ rfl rfl _ 4 5 217 _ _ rfl rfl Tryz.underlying218 (by omega) Tryz.underlying217 kn rfl ?_);generalize wr.alloc (.cells #[.func (.func 186) #[] #[]] 217)=wq at*;have z1:World.cell? { wq with drawn:=wq.drawn+1 } ⟨w.heap.size,4,none⟩=some (.int .i64 a.2.2.2.2):=x1;have z2:World.cell? { wq with drawn:=wq.drawn+1 } ⟨w.heap.size+1,4,none⟩=some (.int .i64 b.2.2.2.2):=x2;have z3:World.cell? { wq with drawn:=wq.drawn+1 } ⟨wr.heap.size,0,none⟩=some (.func (.func 186) #[] #[]):=x3;refine wp_region_still_tail 14 (by kernel_rfl) (by kernel_rfl) ?_;simp only[List.take_succ_cons,List.take_zero,List.drop_succ_cons,List.drop_zero]
      still_step
      still_step
      still_call (zp0 _ _)
      still_step
      still_step
      still_call (zp0 _ _)
      still_step
      still_step
      still_step
      still_step
      still_call (zp0 _ _)
      still_step
      still_step
      still_step
      refine wpStill_nil ?_;change wpList _ _ _ _ _ wq.drew;all_goals go_wp2
      all_goals
       go_roundw
       case rel=>exact⟨5,by omega,by go_num,(Hb2.out.setCell (p:=⟨w.heap.size,4,none⟩) (Nat.le_refl _) _).drew,by rw[←HF.out];exact((HA2.out.stored 4 _).1).drew,(zdz HB2.out (by omega)).drew,(zdz HR2.out (by omega)).drew⟩
       case measure=>simp[intOf]
  · obtain rfl:q=5:=by omega
    have c0:=hoA.out.cells (g:=w.heap.size) rfl 0 _ rfl;have c1:=hoA.out.cells (g:=w.heap.size) rfl 1 _ rfl;have c2:=hoA.out.cells (g:=w.heap.size) rfl 2 _ rfl;have c3:=hoA.out.cells (g:=w.heap.size) rfl 3 _ rfl;have c4:=hoA.out.cells (g:=w.heap.size) rfl 4 _ rfl;rw[yp] at c0 c1 c2 c3 c4;simp only[Nat.zero_add] at c0 c1 c2 c3 c4;have r0:=hoR.out.cells (g:=w.heap.size+2) rfl 0 _ rfl;have r1:=hoR.out.cells (g:=w.heap.size+2) rfl 1 _ rfl;have r2:=hoR.out.cells (g:=w.heap.size+2) rfl 2 _ rfl;have r3:=hoR.out.cells (g:=w.heap.size+2) rfl 3 _ rfl;have r4:=hoR.out.cells (g:=w.heap.size+2) rfl 4 _ rfl;rw[yp] at r0 r1 r2 r3 r4;simp only[Nat.zero_add] at r0 r1 r2 r3 r4;have f0:=kj hoR.out 0;have f1:=kj hoR.out 1;have f2:=kj hoR.out 2;have f3:=kj hoR.out 3;have f4:=kj hoR.out 4;go_wp2_with fail;refine bodyPost_ret (v:=je (zl9 a b)) (by simp[results,Tryz.results76,go_sem,World.cell?_setCell_same,World.cell?_setCell_other,r0,r1,r2,r3,r4];rfl) rfl ?_;refine⟨rfl,?_⟩;refine Below.setCell (Below.setCell (Below.setCell (Below.setCell (Below.setCell Hb.out ?_ _) ?_ _) ?_ _) ?_ _) ?_ _ <;> (simp;try omega)
end
section
open Go.RowKit
theorem ycc {k:Kno} (h:Joins k):ckF k=none:=zez.2 fun f hf=>⟨h.good f hf,h.ck f hf⟩
set_option maxRecDepth 100000 in
theorem zmb (a:Option Addr) (n cap:Nat) (k:Kno) (w:World) (hE:Frags w a n cap k) (hD:Door w) (hck:ckF k=none) (hs:SmallK k) (h240:yf k≤240):
 Calls Tryz.prog 40 #[.slice a n cap] w fun x w'=>x=.returned (.tuple #[je (qv (zh k)),.nilIface])∧Below w.heap.size w w':=by
 have hk:=zli hE.all hck;have hJ:=zur hk hs hck;obtain⟨jc,ic,lc⟩:=zuv hk hs h240;obtain⟨c1,c2,-⟩:=zh6 hk;have hself:=zyb c2 c1;have hC:=fun w' (h:Below w.heap.size w w')=>zlc a n cap k w' (hE.below h) (hD.below (Nat.le_refl _) h)
 rw[hck] at hC;simp only[yj,yl] at hC;have HC:=hid hC;have HCn:=hid (fun W (h:Below w.heap.size w W)=>zvx a n cap k W (hE.below h) hJ (Nat.le_trans (zlg _) (by omega)));have HSg:=hid (fun W a' c' (h:Frags W a' (zh k).length c' (zh k))=>zuc a' _ c' (zh k) W h jc.good (by omega));have HEn:=hid (fun W (hb:Below w.heap.size w W) a' c' (h:Frags W a' (zh k).length c' (zh k))=>zox a' _ c' (zh k) W h (hD.below (Nat.le_refl _) hb) (ycc jc) jc (Nat.le_trans (zlg _) (by omega)) (by rw[hself];exact c2) (by rw[hself];exact c1) (by rw[hself];omega) (by rw[hself];exact jc.fits.vec) (by rw[hself];exact fun d hd=>by have:=zow jc.fits.vec d hd;omega) (by rw[hself];omega));rw[hself] at HEn;have Hcan:=hid c1;have hR:=World.ownsRow_lit (e:=42) (size:=5) (base:=w.heap.size) w #[.int .i64 0,.int .i64 0,.int .i64 0,.int .i64 0,.int .i64 0] 1 (Nat.le_refl _) (by unfold maxLen;omega) rfl;have hal:Below w.heap.size w (w.alloc (.cells #[.int .i64 0,.int .i64 0,.int .i64 0,.int .i64 0,.int .i64 0] 42)):=(Below.refl _ _).alloc (Nat.le_refl _) _;have HR:=hid hR;have Hal:=hid hal;clear hk hJ jc ic lc c1 c2 hself hC hE hD hck hs h240 hR hal;generalize zh k=c at*;go_enter Tryz.func40,Tryz.ntmps40;go_wp2_with fail;generalize w.alloc (.cells #[.int .i64 0,.int .i64 0,.int .i64 0,.int .i64 0,.int .i64 0] 42)=W at*;refine(HC.out _ Hal.out).mono ?_;rintro e w0 ⟨rfl,hb0⟩;have HR0:=hid (zm HR.out hb0);have Hb0:=hid (Hal.out.trans (hb0.mono Hal.out.size));clear hb0 HR;go_wp2_with fail;refine(HCn.out _ Hb0.out).mono ?_;rintro e w1 ⟨⟨y,rfl,ho⟩,hb1⟩;obtain⟨a1,c1,rfl,hK⟩:=ho.frags;have HK:=hid (fun W (h:Below w1.heap.size w1 W)=>hK.below h);have HR1:=hid (zm HR0.out hb1);have Hb1:=hid (Hb0.out.trans (hb1.mono Hb0.out.size));clear hb1 ho hK HR0;go_wp2_with fail;refine(HSg.out w1 _ _ (HK.out _ (Below.refl _ _))).mono ?_;rintro e w2 ⟨⟨l,al,cl,gi,rfl,hp,hasc,-,-⟩,hb2⟩;obtain⟨e1,-⟩:=zn5 Hcan.out hp hasc;obtain rfl:l=vu c:=e1;have HR2:=hid (zm HR1.out hb2);have Hq2:=hid hb2;have Hb2:=hid (Hb1.out.trans (hb2.mono Hb1.out.size));clear hb2 hp hasc HR1;go_wp2_with fail;refine(HEn.out w2 Hb2.out _ _ (HK.out _ Hq2.out)).mono ?_;rintro e w3 ⟨⟨v,rfl,hov⟩,hb3⟩;obtain⟨av,cv,rfl⟩:=ks hov;have HR3:=hid (zm HR2.out hb3);have Hq3:=hid (Hq2.out.trans (hb3.mono Hq2.out.size));have Hb3:=hid (Hb2.out.trans (hb3.mono Hb2.out.size));clear hb3 hov HR2;go_wp2_with fail;refine(yb9 _ _ _ c w3 (HK.out _ Hq3.out)).mono ?_;rintro e w4 ⟨rfl,hb4⟩;have HR4:=hid (zm HR3.out hb4);have Hq4:=hid (Hq3.out.trans (hb4.mono Hq3.out.size));have Hb4:=hid (Hb3.out.trans (hb4.mono Hb3.out.size));clear hb4 HR3;go_wp2_with fail;refine(yca _ _ _ c w4 (HK.out _ Hq4.out)).mono ?_;rintro e w5 ⟨rfl,hb5⟩;have hR5:=zm HR4.out hb5;have Hb5:=hid (Hb4.out.trans (hb5.mono Hb4.out.size));clear hb5 HR4;have r0:=hR5.cells (g:=w.heap.size) rfl 0 _ rfl;have r1:=hR5.cells (g:=w.heap.size) rfl 1 _ rfl;have r2:=hR5.cells (g:=w.heap.size) rfl 2 _ rfl;have r3:=hR5.cells (g:=w.heap.size) rfl 3 _ rfl;have r4:=hR5.cells (g:=w.heap.size) rfl 4 _ rfl;rw[yp] at r0 r1 r2 r3 r4;simp only[Nat.zero_add] at r0 r1 r2 r3 r4;have f0:=kj hR5 0;have f1:=kj hR5 1;have f2:=kj hR5 2;have f3:=kj hR5 3;have f4:=kj hR5 4;have Hsl:=hid (ze1 c);clear hR5;go_wp2_with fail;refine bodyPost_ret (v:=.tuple #[je (qv c),.nilIface]) (by simp[results,Tryz.results40,go_sem,World.cell?_setCell_same,World.cell?_setCell_other,r0,r1,r2,r3,r4];rw[Hsl.out];rfl) rfl ?_;refine⟨rfl,?_⟩;refine Below.setCell (Below.setCell (Below.setCell (Below.setCell (Below.setCell Hb5.out ?_ _) ?_ _) ?_ _) ?_ _) ?_ _ <;> simp
def zjl (c:Kno) (l:Lim):Err:=yj ((zbe (qv c) l).map fun i=>(7,i))
set_option maxRecDepth 100000 in
theorem zmc (a:Option Addr) (n cap:Nat) (k:Kno) (l:Lim) (w:World) (hE:Frags w a n cap k) (hD:Door w) (hck:ckF k=none) (hs:SmallK k) (h240:yf k≤240):
 Calls Tryz.prog 42 #[.slice a n cap,je l] w fun x w'=>x=.returned (yl (zjl (zh k) l))∧Below w.heap.size w w':=by
 have hal:Below w.heap.size w (w.alloc (.cells #[.int .i64 l.1,.int .i64 l.2.1,.int .i64 l.2.2.1,.int .i64 l.2.2.2.1,.int .i64 l.2.2.2.2] 42)):=(Below.refl _ _).alloc (Nat.le_refl _) _;have HC:=hid (zmb a n cap k _ (hE.below hal) (hD.below (Nat.le_refl _) hal) hck hs h240);have HBx:=hid (zhg w (.int .i64 l.1) (.int .i64 l.2.1) (.int .i64 l.2.2.1) (.int .i64 l.2.2.2.1) (.int .i64 l.2.2.2.2) 42);have Hal:=hid hal;have Hf:=hid (show zjl (zh k) l=yj ((zbe (qv (zh k)) l).map fun i=>(7,i)) from rfl);have hX:=hid (fun w=>zyk (qv (zh k)) l w);clear hE hD hck hs h240 hal;generalize qv (zh k)=L at*;unfold je at hX HC ⊢;go_enter Tryz.func42,Tryz.ntmps42;go_wp2_with fail;refine HC.out.mono ?_;rintro e w1 ⟨rfl,hb1⟩;have Hq1:=hid hb1;have Hb1:=hid (Hal.out.trans (hb1.mono Hal.out.size));clear hb1;go_wp2_with fail;have hl1:Below w1.heap.size w1 (w1.alloc (.cells #[.int .i64 L.1,.int .i64 L.2.1,.int .i64 L.2.2.1,.int .i64 L.2.2.2.1,.int .i64 L.2.2.2.2] 42)):=(Below.refl _ _).alloc (Nat.le_refl _) _;have hl2:Below (w1.alloc (.cells #[.int .i64 L.1,.int .i64 L.2.1,.int .i64 L.2.2.1,.int .i64 L.2.2.2.1,.int .i64 L.2.2.2.2] 42)).heap.size (w1.alloc (.cells #[.int .i64 L.1,.int .i64 L.2.1,.int .i64 L.2.2.1,.int .i64 L.2.2.2.1,.int .i64 L.2.2.2.2] 42)) ((w1.alloc (.cells #[.int .i64 L.1,.int .i64 L.2.1,.int .i64 L.2.2.1,.int .i64 L.2.2.2.1,.int .i64 L.2.2.2.2] 42)).alloc (.cells #[.int .i64 0,.int .i64 0] 94)):=(Below.refl _ _).alloc (Nat.le_refl _) _;obtain⟨x0,x1,x2,x3,x4⟩:=HBx.out ((w1.alloc (.cells #[.int .i64 L.1,.int .i64 L.2.1,.int .i64 L.2.2.1,.int .i64 L.2.2.2.1,.int .i64 L.2.2.2.2] 42)).alloc (.cells #[.int .i64 0,.int .i64 0] 94)) (Hq1.out.trans ((hl1.trans (hl2.mono hl1.size)).mono Hq1.out.size));obtain⟨y0,y1,y2,y3,y4⟩:=zhg w1 (.int .i64 L.1) (.int .i64 L.2.1) (.int .i64 L.2.2.1) (.int .i64 L.2.2.2.1) (.int .i64 L.2.2.2.2) 42 ((w1.alloc (.cells #[.int .i64 L.1,.int .i64 L.2.1,.int .i64 L.2.2.1,.int .i64 L.2.2.2.1,.int .i64 L.2.2.2.2] 42)).alloc (.cells #[.int .i64 0,.int .i64 0] 94)) hl2;have Hb2:=hid (Hb1.out.trans ((hl1.trans (hl2.mono hl1.size)).mono Hb1.out.size));clear hl1 hl2;generalize ((w1.alloc (.cells #[.int .i64 L.1,.int .i64 L.2.1,.int .i64 L.2.2.1,.int .i64 L.2.2.2.1,.int .i64 L.2.2.2.2] 42)).alloc (.cells #[.int .i64 0,.int .i64 0] 94))=W2 at*;refine(zty _ _).mono ?_;rintro e w3 ⟨rfl,rfl⟩
 cases h:zbe L l with
 | none=>
  rw[h] at hX Hf;simp only[zax] at hX;clear h;go_wp2_with fail;refine(hX.out _).mono ?_;rintro e w4 ⟨rfl,hb4⟩;have Hb4:=hid (Hb2.out.trans (hb4.mono Hb2.out.size));clear hb4;go_wp2_with fail;go_ret
  exact⟨by rw[Hf.out];rfl,Hb4.out⟩
 | some i=>
  rw[h] at hX Hf;simp only[zax] at hX;have hd:decide ((0:Int)≤(i:Int))=true:=by rw[decide_eq_true_iff];omega
  clear h;go_wp2_with fail;refine(hX.out _).mono ?_;rintro e w4 ⟨rfl,hb4⟩;have Hb4:=hid (Hb2.out.trans (hb4.mono Hb2.out.size));clear hb4;go_wp2_with fail;refine(zaf 7 i _).mono ?_;rintro e w5 ⟨rfl,rfl⟩;go_wp2_with fail;go_ret;exact⟨by rw[Hf.out];rfl,Hb4.out⟩
end
section
theorem zeh {f:Nat→Nat} {m:Nat}:∀{n:Nat},vp f n≤m↔∀i,i<n→f i≤m
 | 0=>⟨fun _ i hi=>by omega,fun _=>Nat.zero_le _⟩
 | n+1=>by
   rw[vp];constructor
   · intro h i hi;have h1:=(zeh (f:=f) (m:=m) (n:=n)).1 (by omega);rcases Nat.lt_or_ge i n with h2 | h2
     · exact h1 i h2
     · rw[show i=n by omega];omega
   · intro h;have h1:=(zeh (f:=f) (m:=m) (n:=n)).2 fun i hi=>h i (by omega)
     have h2:=h n (by omega);omega
theorem zfi {n:Nat} {l:Int} (h:0≤l):okC n l↔(n:Int)≤l:=by unfold okC;omega
theorem zym {c:Kno} {l:Lim} (h:∀i,i<5→0≤zn l i):okK l c↔zbe (qv c) ((qv c).1,l.2)=none:=by
 have h1:=h 1 (by omega);have h2:=h 2 (by omega);have h3:=h 3 (by omega);have h4:=h 4 (by omega);have e1:zn l 1=l.2.1:=rfl;have e2:zn l 2=l.2.2.1:=rfl;have e3:zn l 3=l.2.2.2.1:=rfl;have e4:zn l 4=l.2.2.2.2:=rfl;rw[e1] at h1;rw[e2] at h2;rw[e3] at h3;rw[e4] at h4;have d1:(qv c).2.1=((c.length:Nat):Int):=rfl;have d2:(qv c).2.2.1=((vp (fun i=>(za c i).2.length) c.length:Nat):Int):=rfl;have d3:(qv c).2.2.2.1=((vp (fun i=>zbw (za c i).2) c.length:Nat):Int):=rfl;have d4:(qv c).2.2.2.2=(((zj c).length:Nat):Int):=rfl
 have m2:(qv c).2.2.1≤l.2.2.1↔∀i,i<c.length→(((za c i).2.length:Nat):Int)≤l.2.2.1:=by
  rw[d2];have:=zeh (f:=fun i=>(za c i).2.length) (m:=l.2.2.1.toNat) (n:=c.length);constructor
  · intro h i hi;have:=this.1 (by omega) i hi;omega
  · intro h;have:=this.2 fun i hi=>by have:=h i hi;omega
    omega
 have m3:(qv c).2.2.2.1≤l.2.2.2.1↔∀i,i<c.length→∀j,j<(za c i).2.length→(((zc (za c i).2 j).2.2.length:Nat):Int)≤l.2.2.2.1:=by
  rw[d3];have:=zeh (f:=fun i=>zbw (za c i).2) (m:=l.2.2.2.1.toNat) (n:=c.length);constructor
  · intro h i hi j hj;have h5:=this.1 (by omega) i hi;have h6:=(zeh (f:=fun j=>(zc (za c i).2 j).2.2.length) (m:=l.2.2.2.1.toNat) (n:=(za c i).2.length)).1 h5 j hj;omega
  · intro h;have:=this.2 fun i hi=>(zeh (f:=fun j=>(zc (za c i).2 j).2.2.length) (m:=l.2.2.2.1.toNat) (n:=(za c i).2.length)).2 fun j hj=>by have:=h i hi j hj;omega
    omega
 rw[zpu]
 have all:(∀i,i<5→zn (qv c) i≤zn ((qv c).1,l.2) i)↔(qv c).2.1≤l.2.1∧(qv c).2.2.1≤l.2.2.1∧(qv c).2.2.2.1≤l.2.2.2.1∧(qv c).2.2.2.2≤l.2.2.2.2:=by
  constructor
  · intro h;exact⟨h 1 (by omega),h 2 (by omega),h 3 (by omega),h 4 (by omega)⟩
  · rintro⟨a,b,d,e⟩ i hi;rcases(by omega:i=0∨i=1∨i=2∨i=3∨i=4) with rfl | rfl | rfl | rfl | rfl
    · exact Int.le_refl _
    · exact a
    · exact b
    · exact d
    · exact e
 rw[all,m2,m3,d1,d4];constructor
 · intro hk;exact⟨(zfi h1).1 hk.vecs,fun i hi=>(zfi h2).1 (hk.vec i hi).1,fun i hi j hj=>(zfi h3).1 ((hk.vec i hi).2 j hj),(zfi h4).1 hk.segs⟩
 · rintro⟨a,b,d,e⟩;exact⟨(zfi h1).2 a,fun i hi=>⟨(zfi h2).2 (b i hi),fun j hj=>(zfi h3).2 (d i hi j hj)⟩,(zfi h4).2 e⟩
end
end Go.Proofs.YtdnjfnofjaoajaaGreatDoor
