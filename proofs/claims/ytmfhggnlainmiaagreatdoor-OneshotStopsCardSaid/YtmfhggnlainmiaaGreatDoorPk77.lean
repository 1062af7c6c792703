/- Part 77. -/
import Derived.Test.YtmfhggnlainmiaaGreatDoorPk72
set_option linter.unusedVariables false
set_option maxHeartbeats 16000000
namespace Go.Proofs.YtmfhggnlainmiaaGreatDoor
open Lib (hid)
section
open Go.RowKit
abbrev Lim:=Int×Int×Int×Int×Int
def zc8 (l:Lim):Value:=.agg #[.int .i64 l.1,.int .i64 l.2.1,.int .i64 l.2.2.1,.int .i64 l.2.2.2.1,.int .i64 l.2.2.2.2]
def jz (l:Lim):Nat→Int
 | 0=>l.1
 | 1=>l.2.1
 | 2=>l.2.2.1
 | 3=>l.2.2.2.1
 | _=>l.2.2.2.2
def zha (a b:Lim):Option Nat:=j7 (fun i=>if jz b i<jz a i then some i else none) 5
def ykn (w:World) (g:Nat) (l:Lim):Prop:=∀i,i<5→w.cell? ⟨g,i,none⟩=some (.int .i64 (jz l i))
theorem z5l (w:World) (x y z u v:Value) (T:TypeId) (w':World) (h:Below (w.alloc (.cells #[x,y,z,u,v] T)).heap.size (w.alloc (.cells #[x,y,z,u,v] T)) w'):
 w'.cell? ⟨w.heap.size,0,none⟩=some x∧w'.cell? ⟨w.heap.size,1,none⟩=some y∧w'.cell? ⟨w.heap.size,2,none⟩=some z∧w'.cell? ⟨w.heap.size,3,none⟩=some u∧w'.cell? ⟨w.heap.size,4,none⟩=some v:=by
 have hrow:(w.alloc (.cells #[x,y,z,u,v] T)).heap[w.heap.size]?=some (.cells #[x,y,z,u,v] T):=qa rfl
 exact⟨(h.cell (p:=⟨w.heap.size,0,none⟩) (by simp)).trans (ym (i:=0) hrow rfl),(h.cell (p:=⟨w.heap.size,1,none⟩) (by simp)).trans (ym (i:=1) hrow rfl),(h.cell (p:=⟨w.heap.size,2,none⟩) (by simp)).trans (ym (i:=2) hrow rfl),
  (h.cell (p:=⟨w.heap.size,3,none⟩) (by simp)).trans (ym (i:=3) hrow rfl),(h.cell (p:=⟨w.heap.size,4,none⟩) (by simp)).trans (ym (i:=4) hrow rfl)⟩
theorem zvk (w:World) (l:Lim) (T:TypeId) (w':World) (h:Below (w.alloc (.cells #[.int .i64 l.1,.int .i64 l.2.1,.int .i64 l.2.2.1,.int .i64 l.2.2.2.1,.int .i64 l.2.2.2.2] T)).heap.size (w.alloc (.cells #[.int .i64 l.1,.int .i64 l.2.1,.int .i64 l.2.2.1,.int .i64 l.2.2.2.1,.int .i64 l.2.2.2.2] T)) w'):ykn w' w.heap.size l:=by
 obtain⟨h0,h1,h2,h3,h4⟩:=z5l w _ _ _ _ _ T w' h;intro i hi;rcases(by omega:i=0∨i=1∨i=2∨i=3∨i=4) with rfl | rfl | rfl | rfl | rfl
 · exact h0
 · exact h1
 · exact h2
 · exact h3
 · exact h4
def zaj (f:Nat→Nat):Nat→Nat
 | 0=>0
 | d+1=>max (zaj f d) (f d)
def zf9 (v:Vec):Nat:=zaj (fun i=>(zg v i).2.2.length) v.length
def zax (c:Kno):Lim:=(((zq (zn c)).length:Nat),(c.length:Nat),(zaj (fun i=>(za c i).2.length) c.length:Nat),(zaj (fun i=>zf9 (za c i).2) c.length:Nat),((zk c).length:Nat))
theorem zvl (l:Lim) (w:World):Calls Tryz.prog 97 #[zc8 l] w fun x w'=>x=.returned (zc8 l)∧Below w.heap.size w w':=by
 unfold zc8;go_enter Tryz.func97,Tryz.ntmps97;go_wp2;refine bodyPost_ret (v:=zc8 l) (by simp[results,Tryz.results97,go_sem];rfl) rfl ?_;exact⟨rfl,((Below.refl _ _).alloc (Nat.le_refl _) _).alloc (by simp) _⟩
end
section
theorem zna {a b:Lim}:zha a b=none↔∀i,i<5→jz a i≤jz b i:=by
 unfold zha;constructor
 · intro h i hi;have:=List.findSome?_eq_none_iff.1 h i (List.mem_range.2 hi);split at this
   · cases this
   · omega
 · intro h;exact zbs fun i hi=>if_neg (by have:=h i hi;omega)
end
section
open Go.RowKit
def sl1 (g:Nat):Value:=.slice (some ⟨g,0,none⟩) 1 1
end
section
open Go.RowKit
attribute [local go_sem] y9
set_option maxRecDepth 20000 in
theorem z5m (a b:Lim) (w:World):Calls Tryz.prog 54 #[zc8 a,zc8 b] w fun x w'=>x=.returned (.int .i64 (zck (zha a b)))∧Below w.heap.size w w':=by
 have Hal:=hid (show Below w.heap.size w ((w.alloc (.cells #[.int .i64 a.1,.int .i64 a.2.1,.int .i64 a.2.2.1,.int .i64 a.2.2.2.1,.int .i64 a.2.2.2.2] 24)).alloc (.cells #[.int .i64 b.1,.int .i64 b.2.1,.int .i64 b.2.2.1,.int .i64 b.2.2.2.1,.int .i64 b.2.2.2.2] 24)) from((Below.refl _ _).alloc (Nat.le_refl _) _).alloc (by simp) _);have HBx:=hid (z5l (w.alloc (.cells #[.int .i64 a.1,.int .i64 a.2.1,.int .i64 a.2.2.1,.int .i64 a.2.2.2.1,.int .i64 a.2.2.2.2] 24)) (.int .i64 b.1) (.int .i64 b.2.1) (.int .i64 b.2.2.1) (.int .i64 b.2.2.2.1) (.int .i64 b.2.2.2.2) 24);have Hx:=hid (show zha a b=j7 (fun i=>if jz b i<jz a i then some i else none) 5 from rfl);have hC:=hid (fun w=>zvl a w);have hD:=hid (fun w=>zvl b w);unfold zc8 at hC hD ⊢;go_enter Tryz.func54,Tryz.ntmps54;go_wp2_with fail;refine(hC.out _).mono ?_;rintro e w1 ⟨rfl,hb1⟩;have Hb1:=hid (Hal.out.trans (hb1.mono Hal.out.size));have hal1:Below w1.heap.size w1 (w1.alloc (.cells #[.int .i64 a.1,.int .i64 a.2.1,.int .i64 a.2.2.1,.int .i64 a.2.2.2.1,.int .i64 a.2.2.2.2] 167)):=(Below.refl _ _).alloc (Nat.le_refl _) _;obtain⟨x0,x1,x2,x3,x4⟩:=HBx.out _ (hb1.trans (hal1.mono hb1.size));simp only[World.size_alloc] at x0 x1 x2 x3 x4;have HA:=hid (zvk w1 a 167);have Hb2:=hid (Hb1.out.trans (hal1.mono Hb1.out.size));clear hb1 hal1;go_wp2_with fail;generalize w1.alloc (.cells #[.int .i64 a.1,.int .i64 a.2.1,.int .i64 a.2.2.1,.int .i64 a.2.2.2.1,.int .i64 a.2.2.2.2] 167)=W1 at*;refine(hD.out _).mono ?_;rintro e w2 ⟨rfl,hb2⟩;have HB:=hid (zvk w2 b 167);have hal2:Below w2.heap.size w2 (w2.alloc (.cells #[.int .i64 b.1,.int .i64 b.2.1,.int .i64 b.2.2.1,.int .i64 b.2.2.2.1,.int .i64 b.2.2.2.2] 167)):=(Below.refl _ _).alloc (Nat.le_refl _) _;have HA2:=hid (fun w' (h:Below (w2.alloc (.cells #[.int .i64 b.1,.int .i64 b.2.1,.int .i64 b.2.2.1,.int .i64 b.2.2.2.1,.int .i64 b.2.2.2.2] 167)).heap.size (w2.alloc (.cells #[.int .i64 b.1,.int .i64 b.2.1,.int .i64 b.2.2.1,.int .i64 b.2.2.2.1,.int .i64 b.2.2.2.2] 167)) w')=>HA.out w' (hb2.trans ((hal2.trans (h.mono hal2.size)).mono hb2.size)));have Hb3:=hid (Hb2.out.trans ((hb2.trans (hal2.mono hb2.size)).mono Hb2.out.size));clear hb2 hal2 x0 x1 x2 x3 x4;go_wp2_with fail;generalize w2.alloc (.cells #[.int .i64 b.1,.int .i64 b.2.1,.int .i64 b.2.2.1,.int .i64 b.2.2.2.1,.int .i64 b.2.2.2.2] 167)=W at*;go_loopw [7] (fun i wr=>∃q:Nat,q≤5∧i=.int .i64 q∧Below W.heap.size W wr∧Hid (∀j,j<q→(if jz b j<jz a j then some j else none)=none)) (fun i _=>5 - (intOf i).toNat)
 case atStart=>exact⟨0,by omega,rfl,Below.refl _ _,fun j h=>by omega⟩
 case round=>
  obtain⟨q,hq5,rfl,hb,ht⟩:=hrel;have Hb:=hid hb;clear hb;have h0:(0:Int)≤q:=by omega
  by_cases hq:q<5
  · have h04:(q:Int)<5:=by omega
    have y1:=HA2.out _ Hb.out q hq;have y2:=HB.out _ Hb.out q hq;by_cases h:jz b q<jz a q
    · have hd1:decide (jz b q<jz a q)=true:=decide_eq_true h;have Hr:=hid (zbb hq ht.out (if_pos h));generalize jz a q=xa at*;generalize jz b q=xb at*;clear h;go_wp2;go_quiet (fail);go_wp2;go_ret;exact⟨by rw[Hx.out,Hr.out];rfl,Hb3.out.trans ((by first | exact Hb.out | exact z7 Hb.out _:Below W.heap.size W _).mono Hb3.out.size)⟩
    · have hd1:decide (jz b q<jz a q)=false:=decide_eq_false h;have Hr:=hid (zdb ht.out (if_neg h));generalize jz a q=xa at*;generalize jz b q=xb at*;clear h;go_wp2;go_quiet (fail);go_wp2;go_roundw
      case rel=>exact⟨q+1,by omega,by go_num,by first | exact Hb.out | exact z7 Hb.out _,Hr.out⟩
      case measure=>simp[intOf];omega
  · obtain rfl:q=5:=by omega
    have Hr:=hid (zbs ht.out);go_wp2;go_ret;exact⟨by rw[Hx.out,Hr.out];rfl,Hb3.out.trans (Hb.out.mono Hb3.out.size)⟩
end
section
theorem zky {f:Nat→Nat} {m:Nat}:∀{n:Nat},zaj f n≤m↔∀i,i<n→f i≤m
 | 0=>⟨fun _ i hi=>by omega,fun _=>Nat.zero_le _⟩
 | n+1=>by
   rw[zaj];constructor
   · intro h i hi;have h1:=(zky (f:=f) (m:=m) (n:=n)).1 (by omega);rcases Nat.lt_or_ge i n with h2 | h2
     · exact h1 i h2
     · rw[show i=n by omega];omega
   · intro h;have h1:=(zky (f:=f) (m:=m) (n:=n)).2 fun i hi=>h i (by omega)
     have h2:=h n (by omega);omega
theorem zig {n:Nat} {l:Int} (h:0≤l):okC n l↔(n:Int)≤l:=by unfold okC;omega
theorem z5n {c:Kno} {l:Lim} (h:∀i,i<5→0≤jz l i):okK l c↔zha (zax c) ((zax c).1,l.2)=none:=by
 have h1:=h 1 (by omega);have h2:=h 2 (by omega);have h3:=h 3 (by omega);have h4:=h 4 (by omega);have e1:jz l 1=l.2.1:=rfl;have e2:jz l 2=l.2.2.1:=rfl;have e3:jz l 3=l.2.2.2.1:=rfl;have e4:jz l 4=l.2.2.2.2:=rfl;rw[e1] at h1;rw[e2] at h2;rw[e3] at h3;rw[e4] at h4;have d1:(zax c).2.1=((c.length:Nat):Int):=rfl;have d2:(zax c).2.2.1=((zaj (fun i=>(za c i).2.length) c.length:Nat):Int):=rfl;have d3:(zax c).2.2.2.1=((zaj (fun i=>zf9 (za c i).2) c.length:Nat):Int):=rfl;have d4:(zax c).2.2.2.2=(((zk c).length:Nat):Int):=rfl
 have m2:(zax c).2.2.1≤l.2.2.1↔∀i,i<c.length→(((za c i).2.length:Nat):Int)≤l.2.2.1:=by
  rw[d2];have:=zky (f:=fun i=>(za c i).2.length) (m:=l.2.2.1.toNat) (n:=c.length);constructor
  · intro h i hi;have:=this.1 (by omega) i hi;omega
  · intro h;have:=this.2 fun i hi=>by have:=h i hi;omega
    omega
 have m3:(zax c).2.2.2.1≤l.2.2.2.1↔∀i,i<c.length→∀j,j<(za c i).2.length→(((zg (za c i).2 j).2.2.length:Nat):Int)≤l.2.2.2.1:=by
  rw[d3];have:=zky (f:=fun i=>zf9 (za c i).2) (m:=l.2.2.2.1.toNat) (n:=c.length);constructor
  · intro h i hi j hj;have h5:=this.1 (by omega) i hi;have h6:=(zky (f:=fun j=>(zg (za c i).2 j).2.2.length) (m:=l.2.2.2.1.toNat) (n:=(za c i).2.length)).1 h5 j hj;omega
  · intro h;have:=this.2 fun i hi=>(zky (f:=fun j=>(zg (za c i).2 j).2.2.length) (m:=l.2.2.2.1.toNat) (n:=(za c i).2.length)).2 fun j hj=>by have:=h i hi j hj;omega
    omega
 rw[zna]
 have all:(∀i,i<5→jz (zax c) i≤jz ((zax c).1,l.2) i)↔(zax c).2.1≤l.2.1∧(zax c).2.2.1≤l.2.2.1∧(zax c).2.2.2.1≤l.2.2.2.1∧(zax c).2.2.2.2≤l.2.2.2.2:=by
  constructor
  · intro h;exact⟨h 1 (by omega),h 2 (by omega),h 3 (by omega),h 4 (by omega)⟩
  · rintro⟨a,b,d,e⟩ i hi;rcases(by omega:i=0∨i=1∨i=2∨i=3∨i=4) with rfl | rfl | rfl | rfl | rfl
    · exact Int.le_refl _
    · exact a
    · exact b
    · exact d
    · exact e
 rw[all,m2,m3,d1,d4];constructor
 · intro hk;exact⟨(zig h1).1 hk.vecs,fun i hi=>(zig h2).1 (hk.vec i hi).1,fun i hi j hj=>(zig h3).1 ((hk.vec i hi).2 j hj),(zig h4).1 hk.segs⟩
 · rintro⟨a,b,d,e⟩;exact⟨(zig h1).2 a,fun i hi=>⟨(zig h2).2 (b i hi),fun j hj=>(zig h3).2 (d i hi j hj)⟩,(zig h4).2 e⟩
end
section
open Go.RowKit
def zjl (F N x y z:Nat):List Value:=[.int .i64 (F:Int),.int .i64 (N:Int),.int .i64 (x:Int),.int .i64 (y:Int),.int .i64 (z:Int)]
theorem z5o (p q:Nat):max (p:Int) (q:Int)=((max p q:Nat):Int):=by omega
set_option maxRecDepth 100000 in
theorem z5p (a:Option Addr) (n cap:Nat) (k:Kno) (w:World) (hE:Frags w a n cap k) (hL:LtK k) (hF:KnoFits k) (hA:(jk (k.map (·.1))).length≤2000) (hK:EncK (zv k)):
 Calls Tryz.prog 55 #[.slice a n cap] w fun x w'=>x=.returned (zc8 (zax (zv k)))∧Below w.heap.size w w':=by
 have HC:=hid (fun W (h:Below w.heap.size w W)=>z43 a n cap k W (hE.below h) hL hF hA);have hal:Below w.heap.size w (w.alloc (.cells #[.int .i64 0,.int .i64 0,.int .i64 0,.int .i64 0,.int .i64 0] 24)):=(Below.refl _ _).alloc (Nat.le_refl _) _;have HR:=hid (World.ownsRow_lit (e:=24) (size:=5) (base:=w.heap.size) w #[.int .i64 0,.int .i64 0,.int .i64 0,.int .i64 0,.int .i64 0] 1 (Nat.le_refl _) (by unfold maxLen;omega) rfl);have Hal:=hid hal;have HK:=hid hK;have Hlst:=hid (show zax (zv k)=((((zq (zn (zv k))).length:Nat):Int),(((zv k).length:Nat):Int),((zaj (fun i=>(za (zv k) i).2.length) (zv k).length:Nat):Int),((zaj (fun i=>zf9 (za (zv k) i).2) (zv k).length:Nat):Int),(((k7 (zv k) (zv k).length).length:Nat):Int)) from rfl);clear hE hL hF hA hK hal;generalize zv k=c at*;go_enter Tryz.func55,Tryz.ntmps55;go_wp2_with fail;generalize w.alloc (.cells #[.int .i64 0,.int .i64 0,.int .i64 0,.int .i64 0,.int .i64 0] 24)=W at*;refine(HC.out _ Hal.out).mono ?_;rintro e w1 ⟨⟨a1,c1,rfl,hF1⟩,hb1⟩;have HR1:=hid (zm HR.out hb1);have Hb1:=hid (Hal.out.trans (hb1.mono Hal.out.size));clear hb1 HR HC;have HB:=hid (z44 a1 _ c1 c w1 hF1 HK.out);have HF1:=hid hF1;clear hF1;go_wp2_with fail;refine HB.out.mono ?_;rintro e w2 ⟨⟨y,rfl,ho⟩,hb2⟩;obtain⟨av,cv,rfl⟩:=jh ho;have HF2:=hid (HF1.out.below hb2);have HR2:=hid (zm HR1.out hb2);have Hb2:=hid (Hb1.out.trans (hb2.mono Hb1.out.size));clear hb2 ho HB HF1 HR1;have hlc:=HK.out.len;have HS:=hid (fun d (hd:d≤c.length)=>show (k7 c d).length≤1000 from by rw[zfv c d hd];exact Nat.le_trans (zku c d) HK.out.sum);have HSt:=hid (fun d=>show (k7 c (d+1)).length=(k7 c d).length+(za c d).1.length from by rw[show k7 c (d+1)=zbt (k7 c d) (za c d).1 d from rfl,zn6]);clear HK;generalize (zq (zn c)).length=FL at*;obtain⟨N,hN⟩:∃N,N=c.length:=⟨_,rfl⟩;rw[←hN] at HF2 hlc HS Hlst ⊢;have HN:=hid hN;clear hN;have Ho3:=hid (World.ownsRow_lit (e:=24) (size:=5) (base:=w2.heap.size) w2 (zjl FL N 0 0 0).toArray 1 (Nat.le_refl _) (by unfold maxLen;omega) rfl);have Hb3:=hid (show Below w2.heap.size w2 (w2.alloc (.cells (zjl FL N 0 0 0).toArray 24)) from(Below.refl _ _).alloc (Nat.le_refl _) _);go_wp2;go_loopw [5,6] (fun i _ wr=>∃d:Nat,d≤N∧i=.int .i64 d∧Hid (Below w2.heap.size w2 wr)∧Hid (wr.ownsRow w2.heap.size 24 5 (sl1 w2.heap.size) 1 (zjl FL N (zaj (fun i=>(za c i).2.length) d) (zaj (fun i=>zf9 (za c i).2) d) (k7 c d).length))) (fun i _ _=>N - (intOf i).toNat)
 case atStart=>exact⟨0,by omega,rfl,Hb3,Ho3⟩
 case round=>
  obtain⟨d,hd,rfl,hb,ho⟩:=hrel;clear Hb3 Ho3;by_cases hdn:d<N
  · obtain⟨bb,oo,rfl⟩:=HF2.out.some (by omega);obtain⟨x,m,cx,y,m',c',hq⟩:=HF2.out.fix hdn;have Hq1:=hid (fun w' (h:Below w2.heap.size w2 w')=>(hq w' h).1);have Hq3:=hid (fun w' (h:Below w2.heap.size w2 w')=>(hq w' h).2.2.1);obtain⟨-,hIv,-,hEn⟩:=hq _ (Below.refl _ _);have hml:=hIv.len;have HEn:=hid hEn;have Hel:=hid hEn.len;have hmm:m'≤9223372036854775807:=Nat.le_trans hEn.room hEn.most;have HS1:=HSt.out d;rw[hml] at HS1;have hs1:=HS.out (d+1) hdn;have HE1:=hid (show zaj (fun i=>(za c i).2.length) (d+1)=max (zaj (fun i=>(za c i).2.length) d) m' from by rw[zaj,hEn.len])
    have HH1:=hid (show zaj (fun i=>zf9 (za c i).2) (d+1)=max (zaj (fun i=>zf9 (za c i).2) d) (zaj (fun j=>(zg (za c d).2 j).2.2.length) m') from by
     rw[zaj];unfold zf9;rw[hEn.len])
    have h0:(0:Int)≤d:=by omega
    have h04:(d:Int)<(N:Int):=by omega
    rw[HS1] at hs1;have HS1:=hid HS1;clear hq hIv hml hEn;generalize (k7 c d).length=S0 at*;generalize zaj (fun i=>(za c i).2.length) d=E0 at*;generalize zaj (fun i=>zf9 (za c i).2) d=H0 at*;generalize (za c d).2=v at*;have y4:=ho.out.cells (g:=w2.heap.size) rfl 4 (.int .i64 (S0:Int)) rfl;rw[qg,Nat.zero_add] at y4;have f4:=zeh ho.out 4;have q1:=Hq1.out _ hb.out;have z1:World.cell? { wr with drawn:=wr.drawn+1 } ⟨w2.heap.size,4,none⟩=some (.int .i64 (S0:Int)):=y4;have z2:World.cell? { wr with drawn:=wr.drawn+1 } ⟨bb,oo+d*2,none⟩=some (.slice x m cx):=q1;go_wp2_with fail;refine wp_region_still_tail 10 (by kernel_rfl) (by kernel_rfl) ?_;simp only[List.take_succ_cons,List.take_zero,List.drop_succ_cons,List.drop_zero];repeat still_step
    refine wpStill_nil ?_;change wpList _ _ _ _ _ wr.drew;go_wp2_with fail;have Ho1:=hid (show ((wr.setCell ⟨w2.heap.size,4,none⟩ (.int .i64 ((S0:Int)+(m:Int)))).drew).ownsRow w2.heap.size 24 5 (sl1 w2.heap.size) 1 (zjl FL N E0 H0 (S0+m)) from((ho.out.stored 4 _).1).drew);have Hb1:=hid (show Below w2.heap.size w2 (wr.setCell ⟨w2.heap.size,4,none⟩ (.int .i64 ((S0:Int)+(m:Int)))).drew from(hb.out.setCell (p:=⟨w2.heap.size,4,none⟩) (Nat.le_refl _) _).drew);clear ho hb y4 f4 q1 z1 z2 hs1;generalize (wr.setCell ⟨w2.heap.size,4,none⟩ (.int .i64 ((S0:Int)+(m:Int)))).drew=W1 at*;have y2:=Ho1.out.cells (g:=w2.heap.size) rfl 2 (.int .i64 (E0:Int)) rfl;rw[qg,Nat.zero_add] at y2;have f2:=zeh Ho1.out 2;have q3:=Hq3.out _ Hb1.out;have z1:World.cell? { W1 with drawn:=W1.drawn+1 } ⟨w2.heap.size,2,none⟩=some (.int .i64 (E0:Int)):=y2;have z2:World.cell? { W1 with drawn:=W1.drawn+1 } ⟨bb,oo+d*2+1,none⟩=some (.slice y m' c'):=q3;refine wp_region_still_tail 10 (by kernel_rfl) (by kernel_rfl) ?_;simp only[List.take_succ_cons,List.take_zero,List.drop_succ_cons,List.drop_zero];repeat still_step
    refine wpStill_nil ?_;change wpList _ _ _ _ _ W1.drew;go_wp2_with fail;have Ho2:=hid (show ((W1.setCell ⟨w2.heap.size,2,none⟩ (.int .i64 (max (E0:Int) (m':Int)))).drew).ownsRow w2.heap.size 24 5 (sl1 w2.heap.size) 1 (zjl FL N (max E0 m') H0 (S0+m)) from by rw[z5o];exact((Ho1.out.stored 2 _).1).drew);have Hb2:=hid (show Below w2.heap.size w2 (W1.setCell ⟨w2.heap.size,2,none⟩ (.int .i64 (max (E0:Int) (m':Int)))).drew from(Hb1.out.setCell (p:=⟨w2.heap.size,2,none⟩) (Nat.le_refl _) _).drew);clear Ho1 Hb1 y2 f2 q3 z1 z2;generalize (W1.setCell ⟨w2.heap.size,2,none⟩ (.int .i64 (max (E0:Int) (m':Int)))).drew=W2 at*;go_loopw [6] (fun j wi=>∃e:Nat,e≤m'∧j=.int .i64 e∧Hid (Below w2.heap.size w2 wi)∧Hid (wi.ownsRow w2.heap.size 24 5 (sl1 w2.heap.size) 1 (zjl FL N (max E0 m') (max H0 (zaj (fun j=>(zg v j).2.2.length) e)) (S0+m)))) (fun j _=>m' - (intOf j).toNat)
    case atStart=>exact⟨0,by omega,rfl,Hb2,by rw[zaj,Nat.max_eq_left (Nat.zero_le _)];exact Ho2⟩
    case round=>
     obtain⟨e,he,rfl,hbi,hoi⟩:=hrel;clear Hb2 Ho2;have q3:=Hq3.out _ hbi.out;by_cases hem:e<m'
     · obtain⟨bv,ov,rfl⟩:=HEn.out.some (by omega);obtain⟨xh,mh,ch,hqe⟩:=HEn.out.fix hem;obtain⟨-,-,qe,hIh⟩:=hqe _ hbi.out;have Hm1:=hid (show max H0 (zaj (fun j=>(zg v j).2.2.length) (e+1))=max (max H0 (zaj (fun j=>(zg v j).2.2.length) e)) mh from by rw[zaj,hIh.len,Nat.max_assoc]);have e0:(0:Int)≤e:=by omega
       have e4:(e:Int)<(m':Int):=by omega
       clear hqe hIh;generalize max H0 (zaj (fun j=>(zg v j).2.2.length) e)=P at*;have y3:=hoi.out.cells (g:=w2.heap.size) rfl 3 (.int .i64 (P:Int)) rfl;rw[qg,Nat.zero_add] at y3;have f3:=zeh hoi.out 3;have z1:World.cell? { wr with drawn:=wr.drawn+1 } ⟨w2.heap.size,3,none⟩=some (.int .i64 (P:Int)):=y3;have z2:World.cell? { wr with drawn:=wr.drawn+1 } ⟨bb,oo+d*2+1,none⟩=some (.slice (some ⟨bv,ov,none⟩) m' c'):=q3;have z3:World.cell? { wr with drawn:=wr.drawn+1 } ⟨bv,ov+e*3+2,none⟩=some (.slice xh mh ch):=qe;go_wp2_with fail;refine wp_region_still_tail 14 (by kernel_rfl) (by kernel_rfl) ?_;simp only[List.take_succ_cons,List.take_zero,List.drop_succ_cons,List.drop_zero];repeat still_step
       refine wpStill_nil ?_;change wpList _ _ _ _ _ wr.drew;go_wp2;have Hoj:=hid (show ((wr.setCell ⟨w2.heap.size,3,none⟩ (.int .i64 (max (P:Int) (mh:Int)))).drew).ownsRow w2.heap.size 24 5 (sl1 w2.heap.size) 1 (zjl FL N (max E0 m') (max P mh) (S0+m)) from by rw[z5o];exact((hoi.out.stored 3 _).1).drew);have Hbj:=hid (show Below w2.heap.size w2 (wr.setCell ⟨w2.heap.size,3,none⟩ (.int .i64 (max (P:Int) (mh:Int)))).drew from(hbi.out.setCell (p:=⟨w2.heap.size,3,none⟩) (Nat.le_refl _) _).drew);go_roundw
       case rel=>exact⟨e+1,by omega,by go_num,Hbj,by rw[Hm1.out];exact Hoj⟩
       case measure=>simp[intOf];omega
     · obtain rfl:e=m':=by omega
       go_wp2;go_roundw
       case rel=>exact⟨d+1,by omega,by go_num,hbi,by rw[HS1.out,HE1.out,HH1.out];exact hoi⟩
       case measure=>simp[intOf];omega
  · obtain rfl:d=N:=by omega
    have hR:=zm HR2.out hb.out;have HbE:=hid (Hb2.out.trans (hb.out.mono Hb2.out.size));have hO:=ho.out;generalize zaj (fun i=>(za c i).2.length) d=E0 at*;generalize zaj (fun i=>zf9 (za c i).2) d=H0 at*;generalize (k7 c d).length=S0 at*;have y0:=hO.cells (g:=w2.heap.size) rfl 0 (.int .i64 (FL:Int)) rfl;have y1:=hO.cells (g:=w2.heap.size) rfl 1 (.int .i64 (d:Int)) rfl;have y2:=hO.cells (g:=w2.heap.size) rfl 2 (.int .i64 (E0:Int)) rfl;have y3:=hO.cells (g:=w2.heap.size) rfl 3 (.int .i64 (H0:Int)) rfl;have y4:=hO.cells (g:=w2.heap.size) rfl 4 (.int .i64 (S0:Int)) rfl;have r0:=hR.cells (g:=w.heap.size) rfl 0 _ rfl;have r1:=hR.cells (g:=w.heap.size) rfl 1 _ rfl;have r2:=hR.cells (g:=w.heap.size) rfl 2 _ rfl;have r3:=hR.cells (g:=w.heap.size) rfl 3 _ rfl;have r4:=hR.cells (g:=w.heap.size) rfl 4 _ rfl;rw[qg,Nat.zero_add] at y0 y1 y2 y3 y4;rw[qg] at r0 r1 r2 r3 r4;simp only[Nat.zero_add] at r0 r1 r2 r3 r4;have f0:=zeh hR 0;have f1:=zeh hR 1;have f2:=zeh hR 2;have f3:=zeh hR 3;have f4:=zeh hR 4;have Hls:=hid (show zc8 (zax c)=.agg #[.int .i64 (FL:Int),.int .i64 (d:Int),.int .i64 (E0:Int),.int .i64 (H0:Int),.int .i64 (S0:Int)] from by rw[Hlst.out];rfl);clear hR hO ho hb;go_wp2_with fail;refine bodyPost_ret (v:=zc8 (zax c)) (by rw[Hls.out];simp[results,Tryz.results55,go_sem,World.cell?_setCell_same,World.cell?_setCell_other,r0,r1,r2,r3,r4]) rfl ?_;refine⟨rfl,?_⟩;refine Below.setCell (Below.setCell (Below.setCell (Below.setCell (Below.setCell HbE.out ?_ _) ?_ _) ?_ _) ?_ _) ?_ _ <;> simp
end
section
theorem yko (c:Kno):∀i,i<5→0≤jz (zax c) i:=fun i hi=>by
 rcases(by omega:i=0∨i=1∨i=2∨i=3∨i=4) with rfl | rfl | rfl | rfl | rfl <;> exact Int.natCast_nonneg _
theorem z5q {c:Kno} {L:zc} (h:zha (zax c) L=none):zc7 L c:=by
 have h':=zna.1 h;have h0:=h' 0 (by omega);have hp:∀i,i<5→0≤jz L i:=fun i hi=>Int.le_trans (yko c i hi) (h' i hi)
 refine⟨?_,(z5n hp).2 (zna.2 fun i hi=>?_)⟩
 · have e:jz (zax c) 0=((zq (zn c)).length:Int):=rfl;have e2:jz L 0=L.1:=rfl;omega
 · rcases Nat.eq_zero_or_pos i with rfl | h0
   · exact Int.le_refl _
   · have:=h' i hi;rcases(by omega:i=1∨i=2∨i=3∨i=4) with rfl | rfl | rfl | rfl <;> exact this
