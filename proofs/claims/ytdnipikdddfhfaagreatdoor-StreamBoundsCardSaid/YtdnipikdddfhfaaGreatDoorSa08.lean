/- Part 08. -/
import Derived.Test.YtdnipikdddfhfaaGreatDoorSa07
set_option linter.unusedVariables false
set_option maxHeartbeats 16000000
namespace Go.Proofs.YtdnipikdddfhfaaGreatDoor
open Lib (hid)
section
abbrev Seg:=Iv×Nat
def zd6 (L:List Seg) (x:Nat):Nat:=(L.takeWhile fun p=>decide (p.1.1<x)).length
def zae (L:List Seg) (s:Iv) (i:Nat):List Seg:=L.take (zd6 L s.1)++(s,i) :: L.drop (zd6 L s.1)
def zax (L:List Seg) (l:List Iv) (i:Nat):List Seg:=l.foldl (fun L s=>zae L s i) L
def kj (k:Kno):Nat→List Seg
 | 0=>[]
 | d+1=>zax (kj k d) (zf k d).1 d
def ze (k:Kno):List Seg:=kj k k.length
theorem zg1 (L:List Seg) (s:Iv) (i:Nat):(zae L s i).Perm ((s,i) :: L):=by
 unfold zae;refine List.perm_middle.trans ?_;rw[List.take_append_drop]
theorem zr2 (L:List Seg) (s:Iv) (i:Nat):(zae L s i).length=L.length+1:=by rw[(zg1 L s i).length_eq,List.length_cons]
theorem zr3 {L:List Seg} (h:L.Pairwise fun p q=>p.1.1≤q.1.1) (s:Iv) (i:Nat):(zae L s i).Pairwise fun p q=>p.1.1≤q.1.1:=by
 induction L with
 | nil=>simp[zae,zd6]
 | cons p L ih=>
  obtain⟨h1,h2⟩:=List.pairwise_cons.1 h;by_cases hp:p.1.1<s.1
  · have e:zae (p :: L) s i=p :: zae L s i:=by
     unfold zae zd6;rw[List.takeWhile_cons_of_pos (by simpa using hp)];simp
    rw[e];refine List.pairwise_cons.2 ⟨fun q hq=>?_,ih h2⟩;rcases List.mem_cons.1 ((zg1 L s i).mem_iff.1 hq) with rfl | hq
    · exact Nat.le_of_lt hp
    · exact h1 q hq
  · have e:zae (p :: L) s i=(s,i) :: p :: L:=by
     unfold zae zd6;rw[List.takeWhile_cons_of_neg (by simpa using hp)];simp
    rw[e];refine List.pairwise_cons.2 ⟨fun q hq=>?_,h⟩;rcases List.mem_cons.1 hq with rfl | hq
    · simp only;omega
    · have:=h1 q hq;simp only;omega
theorem zg2 {L:List Seg} (h:L.Pairwise fun p q=>p.1.1≤q.1.1) (i:Nat):∀(l:List Iv),(zax L l i).Pairwise (fun p q=>p.1.1≤q.1.1)∧(zax L l i).Perm (L++l.map fun s=>(s,i)):=by
 intro l
 induction l generalizing L with
 | nil=>exact⟨h,by simp[zax]⟩
 | cons s l ih=>
  have e:zax L (s :: l) i=zax (zae L s i) l i:=rfl;rw[e];obtain⟨h1,h2⟩:=ih (zr3 h s i);refine⟨h1,h2.trans ?_⟩;rw[List.map_cons];exact((zg1 L s i).append_right _).trans List.perm_middle.symm
theorem za9 (k:Kno):∀d,d≤k.length→(kj k d).Pairwise (fun p q=>p.1.1≤q.1.1)∧((kj k d).map (·.1)).Perm (zaw (k.take d))∧∀p∈kj k d,p.2<d∧p.1∈(zf k p.2).1
 | 0,_=>⟨List.Pairwise.nil,by simp[kj,zaw],fun p h=>by cases h⟩
 | d+1,h=>by
   obtain⟨h1,h2,h3⟩:=za9 k d (by omega);obtain⟨g1,g2⟩:=zg2 h1 d (zf k d).1;refine⟨g1,?_,fun p hp=>?_⟩
   · rw[zrm (by omega)];refine(g2.map _).trans ?_;rw[List.map_append,List.map_map];refine(h2.append_right _).trans ?_;simp[Function.comp_def]
   · rcases List.mem_append.1 (g2.mem_iff.1 hp) with h | h
     · have:=h3 p h;exact⟨by omega,this.2⟩
     · obtain⟨s,hs,rfl⟩:=List.mem_map.1 h;exact⟨Nat.lt_succ_self _,hs⟩
theorem zg3 {α:Type} {f:α→Nat}:∀{l m:List α},l.Perm m→l.Pairwise (fun a b=>f a≤f b)→m.Pairwise (fun a b=>f a≤f b)→(∀a∈l,∀b∈l,f a=f b→a=b)→l=m
 | [],m,hp,_,_,_=>hp.nil_eq
 | a :: l,[],hp,_,_,_=>by have:=hp.length_eq;simp at this
 | a :: l,b :: m,hp,hl,hm,hu=>by
   obtain⟨l1,l2⟩:=List.pairwise_cons.1 hl;obtain⟨m1,m2⟩:=List.pairwise_cons.1 hm;have ha:a∈b :: m:=hp.mem_iff.1 List.mem_cons_self;have hb:b∈a :: l:=hp.mem_iff.2 List.mem_cons_self
   have e:a=b:=by
    refine hu a List.mem_cons_self b hb (Nat.le_antisymm ?_ ?_)
    · rcases List.mem_cons.1 hb with rfl | h
      · exact Nat.le_refl _
      · exact l1 b h
    · rcases List.mem_cons.1 ha with rfl | h
      · exact Nat.le_refl _
      · exact m1 a h
   subst e;rw[zg3 hp.cons_inv l2 m2 (fun x hx y hy=>hu x (List.mem_cons_of_mem _ hx) y (List.mem_cons_of_mem _ hy))]
theorem zr4 {l:List Iv} (h:zgi l):l.Pairwise fun s t=>s.1≤t.1:=by
 rw[List.pairwise_iff_getElem];intro i j hi hj hij;have:=h i j hij hj;rwa [qo hi,qo hj] at this
theorem zkr {k:Kno} (hc:CanK k) {i:Nat} (hi:i<k.length) {s:Iv} (hs:s∈(zf k i).1):zgy k s.1=i:=by
 have hmi:=j8 hi;have hx:=(zgo (hc.items _ hmi).1 hs).1;unfold zgy
 have:ju (fun i=>if mem (zf k i).1 s.1=true then some i else none) k.length=some i:=by
  refine zbw hi (fun j hj=>if_neg fun hm=>?_) (if_pos hx);have hmj:=j8 (k:=k) (i:=j) (by omega);have e:=hc.apart _ hmi _ hmj s.1 hx hm;have hl:=List.pairwise_iff_getElem.1 hc.asc j i (by omega) hi hj;rw[←yw (by omega),←yw hi,e] at hl;unfold zdx at hl;rw[zjo] at hl;cases hl
 rw[this];rfl
theorem zks {l:List Iv} (h:Good l) {s t:Iv} (hs:s∈l) (ht:t∈l) (e:s.1=t.1):s=t:=by
 obtain⟨i,hi,rfl⟩:=List.getElem_of_mem hs;obtain⟨j,hj,rfl⟩:=List.getElem_of_mem ht;rw[←qo hi,←qo hj] at*;have hi2:=(za6 h i hi).1;have hj2:=(za6 h j hj).1;rcases Nat.lt_trichotomy i j with h2 | h2 | h2
 · have:=zc0 h h2 hj;omega
 · rw[h2]
 · have:=zc0 h h2 hi;omega
theorem zr5 {k:Kno} (hc:CanK k) {l:List Iv} (hp:l.Perm (zaw k)) (ha:zgi l):l=(ze k).map (·.1)∧(l.map fun s=>zgy k s.1)=(ze k).map (·.2):=by
 obtain⟨h1,h2,h3⟩:=za9 k k.length (Nat.le_refl _);rw[List.take_length] at h2
 have e:l=(ze k).map (·.1):=by
  refine zg3 (f:=(·.1)) (hp.trans h2.symm) (zr4 ha) (List.pairwise_map.2 h1) fun s hs t ht e=>?_
  obtain⟨f,hf,hsf⟩:=zkl.1 (hp.mem_iff.1 hs);obtain⟨g,hg,htg⟩:=zkl.1 (hp.mem_iff.1 ht);have x1:=(zgo (hc.items f hf).1 hsf).1;have x2:=(zgo (hc.items g hg).1 htg).1;rw[←e] at x2;have e2:=hc.apart f hf g hg s.1 x1 x2;subst e2;exact zks (hc.items f hf).1 hsf htg e
 refine⟨e,?_⟩;rw[e,List.map_map];refine List.map_congr_left fun p hp'=>?_
 obtain⟨g1,g2⟩:=h3 p hp';exact zkr hc g1 g2
end
section
open Go.RowKit
def yg (L:List Seg):List Iv:=L.map (·.1)
def yp (L:List Seg):List Nat:=L.map (·.2)
structure Own2 (w:World) (base:Nat) (L:List Seg) (v u:Value):Prop where
 ivs:w.ownsRow base 89 2 v L.length (ivC (yg L))
 idx:w.ownsRow base 3 1 u L.length (qz (yp L))
 nil:L=[]→v=.slice none 0 0∧u=.slice none 0 0
theorem Own2.below {w w':World} {base:Nat} {L:List Seg} {v u:Value} (h:Own2 w base L v u) (hb:Below w.heap.size w w'):Own2 w' base L v u:=⟨yk h.ivs hb,yk h.idx hb,h.nil⟩
theorem zr6 (L:List Seg) (l:List Iv) (i:Nat):(zax L l i).length=L.length+l.length:=by
 induction l generalizing L with
 | nil=>rfl
 | cons s l ih=>
  have e:zax L (s :: l) i=zax (zae L s i) l i:=rfl;rw[e,ih,zr2,List.length_cons];omega
theorem zg4 (k:Kno):∀d,d≤k.length→(kj k d).length=za8 (k.take d)
 | 0,_=>rfl
 | d+1,h=>by
   rw[kj,zr6,zg4 k d (by omega),List.take_succ_eq_append_getElem (by omega),zkg,yw (by omega)];simp[za8]
theorem zbi {w:World} {base sz n:Nat} {T:TypeId} {v:Value} {xs:List Value} (h:w.ownsRow base T sz v n xs) (hn:0<n):∃g cap,v=.slice (some ⟨g,0,none⟩) n cap∧base≤g∧g<w.heap.size∧n≤cap∧cap≤maxLen:=by
 rcases h.2 with ⟨_,h0⟩ | ⟨g,cap,cur,hv,hg,hh,hnc,hcm,_⟩
 · omega
 · exact⟨g,cap,hv,hg,(Array.getElem?_eq_some_iff.1 hh).1,hnc,hcm⟩
theorem zr7 {w W:World} {a:Option Addr} {n cap:Nat} {l:List Nat} {v u:Value} (hB:Byts w a n cap l) (hne:∀b o k,a=some ⟨b,o,k⟩→v.ownBlock≠some b) (h:GrA w W v u):Byts W a n cap l:=
 ⟨hB.len,hB.lt,hB.room,hB.most,hB.nilc,fun hn=>by
  obtain⟨b,o,e,hc⟩:=hB.cells hn;refine⟨b,o,e,fun i hi=>?_⟩;have h1:=hc i hi;have h2:=h.gr.block b (zd h1) (fun e2=>hne b o none e e2.symm);unfold World.cell? at h1 ⊢;simp only[h2];exact h1⟩
theorem zr8 (v:Value) (n base:Nat) (xs:List Value) (x:Nat) (w:World) (hx:x<18446744073709551616) (hown:w.ownsRow base 5 1 v n xs) (hbase:base≤w.heap.size) (hn:n≤140737488355000):
 Calls Tryz.prog 87 #[v,.int .u64 x] w fun e w'=>∃v',e=.returned v'∧w'.ownsRow base 5 1 v' (n+(yf x).length) (xs++u8s (yf x))∧GrA w w' v v':=by
 have hlen:=zcv 9 x;have hpos:=zcc 9 x;have Ho:=hid hown;clear hown;have Hx:=hid hx;clear hx;go_enter Tryz.func87,Tryz.ntmps87;go_wp2_with fail;refine(zev x w Hx.out).mono ?_;rintro e w' ⟨rfl,rfl⟩;rw[zcu];generalize hL:(vbF 9 x).length=L at*;have HL:=hid hL;clear hL;go_wp2_with fail
 go_loopw [0,1,8] (fun u y i wr=>∃j m k:Nat,j+1≤L∧i=.int .i64 j∧y=.int .u64 m∧Hid (m<18446744073709551616)∧Hid (GrA w wr v u)∧j+(vbF k m).length=L∧
  Hid (∃p:List Nat,p.length=j∧vbF 9 x=p++vbF k m∧wr.ownsRow base 5 1 u (n+j) (xs++u8s p))) (fun _ _ i _=>L - (intOf i).toNat)
 case atStart=>exact⟨0,x,9,by omega,rfl,rfl,Hx.out,hid (GrA.refl _ _),by rw[HL.out];omega,[],rfl,rfl,by have:=Ho.out;simpa [u8s] using this⟩
 case round=>
  obtain⟨j,m,k,hj,rfl,rfl,hm,hb,hjl,hp⟩:=hrel;have hbs:base≤wr.heap.size:=Nat.le_trans hbase hb.out.gr.size;by_cases hjL:j<L - 1
  · have hlt:decide ((j:Int)<(L:Int) - 1)=true:=by rw[decide_eq_true_iff];omega
    obtain⟨k',rfl,h128,hcons⟩:=zin (k:=k) (x:=m) (by omega);obtain⟨p,hpl,hpx,hpo⟩:=hp.out;have Hpo:=hid hpo;clear hpo;have Hcons:=hid hcons;clear hcons;have Hjl:=hid hjl;clear hjl;have Hpl:=hid hpl;clear hpl;have Hpx:=hid hpx;clear hpx;have hbit:=zjd m hm.out;have hq256:m % 128+128<256:=by omega
    generalize m % 128+128=q at*;obtain⟨v',w1,hr,ho1,hg1⟩:=GrA.append (Hpo.out.alloc (.cells #[.int .u8 (q:Int)] 5)) (some ⟨wr.heap.size,0,none⟩) 1 1 [q] (za4 _ _ 1 _ [q] _ _ rfl rfl rfl (by intro x hx;simp at hx;omega) (by omega)) (by omega) (by simp only[World.size_alloc];omega);have Ho1:=hid ho1;clear ho1;have hb1:Hid (GrA w w1 v v'):=hid ((hb.out.below ((Below.refl wr.heap.size wr).alloc (Nat.le_refl _) _)).trans hg1);clear hg1 Hpo;go_wp2_with (at_builtin;refine yv _ _ 22 rfl rfl _ _ rfl rfl _ _ hr ?_);clear hr;go_roundw
    case rel=>
     refine⟨j+1,m / 128,k',by omega,by go_num,by go_num,(by have:=hm.out;show m / 128<_;omega),hb1,?_,p++[q],?_,?_,?_⟩
     · have:=Hjl.out;rw[Hcons.out] at this;simp at this;omega
     · have:=Hpl.out;simp[this]
     · rw[Hpx.out,Hcons.out];simp
     · have:=Ho1.out;rw[List.append_assoc,←zct] at this;exact this
    case measure=>simp[intOf];omega
  · have hge:decide ((j:Int)<(L:Int) - 1)=false:=by rw[decide_eq_false_iff_not];omega
    obtain⟨p,hpl,hpx,hpo⟩:=hp.out;have Hpo:=hid hpo;clear hpo;have h1:(vbF k m).length=1:=by have:=zcc k m;omega
    have e1:=zio h1;have Hfin:=hid (show yf x=p++[m % 256] from by rw[zcu,hpx,e1]);have Hpl:=hid hpl;clear hpl hpx h1 e1;have Hjl:=hid hjl;clear hjl;have hq256:m % 256<256:=by omega
    have hmq:((m:Int) % 256)=((m % 256:Nat):Int):=by omega
    generalize m % 256=q at*;obtain⟨v',w1,hr,ho1,hg1⟩:=GrA.append (Hpo.out.alloc (.cells #[.int .u8 (q:Int)] 5)) (some ⟨wr.heap.size,0,none⟩) 1 1 [q] (za4 _ _ 1 _ [q] _ _ rfl rfl rfl (by intro x hx;simp at hx;omega) (by omega)) (by omega) (by simp only[World.size_alloc];omega);have Ho1:=hid ho1;clear ho1;have hb1:Hid (GrA w w1 v v'):=hid ((hb.out.below ((Below.refl wr.heap.size wr).alloc (Nat.le_refl _) _)).trans hg1);clear hg1 Hpo;go_wp2_with (at_builtin;refine yv _ _ 22 rfl rfl _ _ rfl rfl _ _ hr ?_);go_ret;refine⟨v',rfl,?_,hb1.out⟩;have h2:=Ho1.out;rw[List.append_assoc,←zct] at h2;rw[Hfin.out];have h3:n+(p++[q]).length=n+j+1:=by have:=Hpl.out;simp[this];omega
    rw[h3];exact h2
theorem zr9 (v:Value) (n base:Nat) (xs:List Value) (s:Nat) (w:World) (hs:s<4294967296) (hown:w.ownsRow base 5 1 v n xs) (hbase:base≤w.heap.size) (hn:n≤140737488355000):
 Calls Tryz.prog 153 #[v,.int .u32 s] w fun e w'=>∃v',e=.returned v'∧w'.ownsRow base 5 1 v' (n+4) (xs++u8s (qu s))∧GrA w w' v v':=by
 obtain⟨i0,hi,hz0,hz1,hz2⟩:=info_parts Tryz.info_u8;have H4:=hid (zi7 s);have Hg:=hid (World.grownBy_alloc w);go_enter Tryz.func153,Tryz.ntmps153;go_wp2;go_loopw [6,7] (fun _ i wr=>∃k:Nat,k≤4∧i=.int .i64 k∧wr=w.alloc (.cells (zbr s k) 139)) (fun _ i _=>4 - (intOf i).toNat)
 case atStart=>exact⟨0,by omega,rfl,rfl⟩
 case round=>
  obtain⟨k,hk,rfl,rfl⟩:=hrel;by_cases hk4:k<4
  · obtain rfl | rfl | rfl | rfl:k=0∨k=1∨k=2∨k=3:=by omega
    · rw[zi8];go_wp2;go_roundw
      case rel=>exact⟨1,by omega,rfl,rfl⟩
      case measure=>simp[intOf]
    · rw[zi9];go_wp2;go_roundw
      case rel=>exact⟨2,by omega,rfl,rfl⟩
      case measure=>simp[intOf]
    · rw[zja];go_wp2;go_roundw
      case rel=>exact⟨3,by omega,rfl,rfl⟩
      case measure=>simp[intOf]
    · rw[zjb];go_wp2;go_roundw
      case rel=>exact⟨4,by omega,rfl,rfl⟩
      case measure=>simp[intOf]
  · obtain rfl:k=4:=by omega
    rw[H4.out];obtain⟨v',w1,hr,ho1,hg1⟩:=GrA.append (hown.alloc (.cells (u8s (qu s)).toArray 139)) (some ⟨w.heap.size,0,none⟩) 4 4 (qu s) (za4 _ _ _ _ _ _ _ rfl rfl rfl (zeu hs) (by omega)) (by omega) (by simp only[World.size_alloc];omega);have HG:=hid (((GrA.refl w v).below ((Below.refl w.heap.size w).alloc (Nat.le_refl _) _)).trans hg1);have Ho1:=hid ho1;clear hg1 ho1;go_wp2_with (at_builtin;refine yv _ _ 22 rfl rfl _ _ rfl rfl _ _ hr ?_);go_ret;exact⟨v',rfl,Ho1.out,HG.out⟩
set_option maxRecDepth 20000 in
theorem zsa (v:Value) (n0 base:Nat) (xs:List Value) (a:Option Addr) (n cap:Nat) (l:List Nat) (w:World) (hB:Byts w a n cap l) (hne:∀b o k,a=some ⟨b,o,k⟩→v.ownBlock≠some b) (hown:w.ownsRow base 5 1 v n0 xs) (hbase:base≤w.heap.size) (hn:n≤1000000000000) (hn0:n0≤1000000000000):
 Calls Tryz.prog 114 #[v,.slice a n cap] w fun e w'=>
  (∃v',e=.returned v'∧w'.ownsRow base 5 1 v' (n0+(zam l).length) (xs++u8s (zam l)))∧Below base w w':=by
 have HB:=hid (fun (W:World) (u:Value) (h:GrA w W v u)=>zr7 hB hne h);have Hll:=hid hB.lt;have Ho:=hid hown;have hn0':=hn;have Hn:=hid hn;have Hn0:=hid hn0;have He:=hid (show zam l=qw++yf n++l++qu (sum l) from by rw[←hB.len];rfl);have Hlen:=hid (show (zam l).length=5+(yf n).length+n+4 from by rw[zp4,hB.len]);have Hv:=hid (fun v n1 xs w hown hb hn=>zr8 v n1 base xs n w (Nat.lt_of_le_of_lt hn0' (by decide)) hown hb hn);have Hvl:=hid (zim n);have hvl:(yf n).length≤10:=zcv 9 n;generalize yf n=L2 at*;have hcv:(n:Int) % 18446744073709551616=(n:Int):=by omega
 clear hB hown hn hn0' hne;go_enter Tryz.func114,Tryz.ntmps114;go_wp2_with fail;refine(zju _).mono ?_;rintro e w1 ⟨rfl,hb1⟩;have HG1:=hid ((GrA.refl w v).below hb1);have Ho1:=hid (yk Ho.out hb1);clear hb1;obtain⟨v2,w2,hr2,ho2,hg2⟩:=GrA.append (Ho1.out.alloc (.cells #[.int .u8 75,.int .u8 78,.int .u8 87,.int .u8 76] 139)) (some ⟨w1.heap.size,0,none⟩) 4 4 [75,78,87,76] (za4 _ _ _ _ _ _ _ rfl rfl rfl (by decide) (by omega)) (by have:=Hn0.out;omega) (by have:=HG1.out.gr.size;simp only[World.size_alloc];omega);have Ho2:=hid ho2;have HG2:=hid ((HG1.out.below ((Below.refl w1.heap.size w1).alloc (Nat.le_refl _) _)).trans hg2);clear ho2 hg2;obtain⟨v3,w3,hr3,ho3,hg3⟩:=GrA.append (Ho2.out.alloc (.cells #[.int .u8 1] 5)) (some ⟨w2.heap.size,0,none⟩) 1 1 [1] (za4 _ _ _ _ _ _ _ rfl rfl rfl (by decide) (by omega)) (by have:=Hn0.out;omega) (by have:=HG2.out.gr.size;simp only[World.size_alloc];omega);have Ho3:=hid ho3;have HG3:=hid ((HG2.out.below ((Below.refl w2.heap.size w2).alloc (Nat.le_refl _) _)).trans hg3);clear ho3 hg3
 go_wp2_with (at_builtin;first
  | refine yv _ _ 22 rfl rfl v (.slice (some ⟨w1.heap.size,0,none⟩) 4 4) rfl rfl _ _ hr2 ?_
  | refine yv _ _ 22 rfl rfl v2 (.slice (some ⟨w2.heap.size,0,none⟩) 1 1) rfl rfl _ _ hr3 ?_)
 clear hr2 hr3;refine(Hv.out v3 _ _ _ Ho3.out (by have:=HG3.out.gr.size;omega) (by have:=Hn0.out;omega)).mono ?_;rintro e w4 ⟨v4,rfl,ho4,hg4⟩;have Ho4:=hid ho4;have HG4:=hid (HG3.out.trans hg4);clear ho4 hg4;obtain⟨v5,w5,hr5,ho5,hg5⟩:=GrA.append Ho4.out a n cap l (HB.out _ _ HG4.out) (by have:=Hn.out;have:=Hn0.out;omega) (by have:=HG4.out.gr.size;omega);have Ho5:=hid ho5;have HG5:=hid (HG4.out.trans hg5);clear ho5 hg5;go_wp2_with (at_builtin;refine yv _ _ 22 rfl rfl v4 (.slice a n cap) rfl rfl _ _ hr5 ?_);clear hr5;refine(zp5 a n cap l _ (HB.out _ _ HG5.out)).mono ?_;rintro e w6 ⟨rfl,hb6⟩;have Ho6:=hid (yk Ho5.out hb6);have HG6:=hid (HG5.out.below hb6);clear hb6;go_wp2_with fail;refine(zr9 v5 _ base _ (sum l) _ (zge Hll.out) Ho6.out (by have:=HG6.out.gr.size;omega) (by have:=Hn.out;have:=Hn0.out;omega)).mono ?_;rintro e w7 ⟨v7,rfl,ho7,hg7⟩;have Ho7:=hid ho7;have HG7:=hid (HG6.out.trans hg7);clear ho7 hg7;go_wp2_with fail;go_ret;refine⟨⟨v7,rfl,?_⟩,HG7.out.bel Ho.out hbase⟩;have:=Ho7.out;rw[Hlen.out,He.out];simp only[zct,show qw=[75,78,87,76]++[1] from rfl,←List.append_assoc] at this ⊢;rw[show n0+(5+L2.length+n+4)=n0+4+1+L2.length+n+4 by omega];exact this
end
section
open Go.RowKit
attribute [local go_sem] yq
theorem zsb (ao al x:Nat) (w:World) (h:al+x<18446744073709551616) (ha:ao<1000):
 Calls Tryz.prog 234 #[.agg #[.int .u64 (ao:Int),.int .u64 (al:Int)],.agg #[.int .u64 0,.int .u64 (x:Int)]] w fun e w'=>e=.returned (.agg #[.int .u64 (ao:Int),.int .u64 ((al+x:Nat):Int)])∧Below w.heap.size w w':=by
 have k1:IntKind.u64.wrap ((al:Int)+(x:Int))=((al+x:Nat):Int):=by rw[IntKind.wrap_u64];omega
 have k2:decide (((al+x:Nat):Int)<(al:Int))=false:=by rw[decide_eq_false_iff_not];omega
 have k3:decide (al+x<al)=false:=by rw[decide_eq_false_iff_not];omega
 clear h;go_enter Tryz.func234,Tryz.ntmps234;go_wp2_with fail;exact bodyPost_ret (v:=.agg #[.int .u64 (ao:Int),.int .u64 ((al+x:Nat):Int)]) (by simp[results,Tryz.results234,go_sem]) rfl ⟨rfl,((((Below.refl _ _).alloc (Nat.le_refl _) _).alloc (by simp) _).alloc (by simp;omega) _).alloc (by simp;omega) _⟩
theorem zsc (ao al x:Nat) (w:World) (h:¬al+x<18446744073709551616) (ha:ao<1000) (h1:al<18446744073709551616) (h2:x<18446744073709551616):
 Calls Tryz.prog 234 #[.agg #[.int .u64 (ao:Int),.int .u64 (al:Int)],.agg #[.int .u64 0,.int .u64 (x:Int)]] w fun e w'=>e=.returned (.agg #[.int .u64 ((ao+1:Nat):Int),.int .u64 ((al+x - 18446744073709551616:Nat):Int)])∧Below w.heap.size w w':=by
 have k1:IntKind.u64.wrap ((al:Int)+(x:Int))=((al+x - 18446744073709551616:Nat):Int):=by rw[IntKind.wrap_u64];omega
 have k2:decide (((al+x - 18446744073709551616:Nat):Int)<(al:Int))=true:=by rw[decide_eq_true_iff];omega
 have k3:decide (al+x - 18446744073709551616<al)=true:=by rw[decide_eq_true_iff];omega
 clear h h1 h2;generalize al+x - 18446744073709551616=y at*;go_enter Tryz.func234,Tryz.ntmps234;go_wp2_with fail;exact bodyPost_ret (v:=.agg #[.int .u64 ((ao+1:Nat):Int),.int .u64 (y:Int)]) (by simp[results,Tryz.results234,go_sem]) rfl ⟨rfl,((((Below.refl _ _).alloc (Nat.le_refl _) _).alloc (by simp) _).alloc (by simp;omega) _).alloc (by simp;omega) _⟩
def qm (s:Nat):Value:=if s<18446744073709551616 then .tuple #[.int .u64 ((s:Nat):Int),.bool true] else .tuple #[.int .u64 0,.bool false]
theorem zkt (l:List Nat) (k:Nat) (h:k<l.length):(l.take (k+1)).sum=(l.take k).sum+nth l k:=by
 rw[zik l k h,List.sum_append];simp
set_option maxRecDepth 20000 in
theorem zsd (A:Option Addr) (n cp:Nat) (l:List Nat) (w:World) (hR:Rd w 1 A n (yb l)) (hl:l.length=n) (h64:∀x∈l,x<18446744073709551616) (hn:n≤10):
 Calls Tryz.prog 192 #[.slice A n cp] w fun e w'=>e=.returned (qm l.sum)∧Below w.heap.size w w':=by
 have HR:=hid hR;have Hl:=hid hl;have H64:=hid h64;clear hR hl h64;go_enter Tryz.func192,Tryz.ntmps192;go_wp2_with fail;have Hb0:=hid ((Below.refl w.heap.size w).alloc (Nat.le_refl _) (.cells #[.int .u64 0,.int .u64 0] 325));have Hr0:=hid (yo w 325 [.int .u64 0,.int .u64 0]);generalize w.alloc (.cells #[.int .u64 0,.int .u64 0] 325)=w0 at*;obtain⟨g,hg⟩:∃g,g=w.heap.size:=⟨_,rfl⟩;have Hg:=hid hg;rw[←hg] at Hr0 Hb0 ⊢;clear hg;go_loopw [6,9] (fun _ i wr=>∃k ao al:Nat,k≤n∧i=.int .i64 k∧Below g w wr∧Hid (Row wr g 325 [.int .u64 (ao:Int),.int .u64 (al:Int)])∧Hid (ao≤k∧al<18446744073709551616∧ao*18446744073709551616+al=(l.take k).sum)) (fun _ i _=>n - (intOf i).toNat)
 case atStart=>exact⟨0,0,0,by omega,rfl,Hb0.out,Hr0.out,Nat.le_refl _,by omega,rfl⟩
 case round=>
  obtain⟨k,ao,al,hk,rfl,hb,hr,hs⟩:=hrel;have Hb:=hid hb;clear hb;have q0:=hr.out.cell 0 rfl;have q1:=hr.out.cell 1 rfl;have z0:=hr.out.fz 0;have z1:=hr.out.fz 1;obtain⟨s1,s2,s3⟩:=hs.out;have Hs3:=hid s3;have s1':ao<1000:=by omega
  have Hs1:=hid s1;have Hs2:=hid s2;clear s3 s1 s2 hs;by_cases hkn:k<n
  · obtain⟨bb,oo,rfl,hc⟩:=(HR.out.below (show Below w.heap.size w wr from by rw[←Hg.out];exact Hb.out)).2 (by omega);have qx:=hc k _ (zdz l k (by rw[Hl.out];exact hkn));have hxl:=H64.out _ (ziu (show k<l.length by rw[Hl.out];exact hkn));have Hst:=hid (zkt l k (by rw[Hl.out];exact hkn));clear hc;generalize nth l k=x at*;have Hx:=hid hxl;clear hxl;by_cases hlo:al+x<18446744073709551616
    · have HP:=hid (zsb ao al x wr hlo s1');have Hlo:=hid hlo;clear hlo;go_wp2_with fail;refine HP.out.mono ?_;rintro e w2 ⟨rfl,hb2⟩;have Hr2:=hid (((hr.out.later hb2).set 0 (.int .u64 (ao:Int))).set 1 (.int .u64 ((al+x:Nat):Int)));have f0:=(hr.out.later hb2).fz 0;have f1:=(hr.out.later hb2).fz 1;have p0:=(hr.out.later hb2).cell 0 rfl;have p1:=(hr.out.later hb2).cell 1 rfl;have Hb2:=hid (((Hb.out.trans (hb2.mono (Nat.le_trans (Nat.le_of_eq Hg.out) (by have:=hr.out.lt;have:=Hg.out;omega)))).setCell (p:=⟨g,0,none⟩) (Nat.le_refl _) (.int .u64 (ao:Int))).setCell (p:=⟨g,1,none⟩) (Nat.le_refl _) (.int .u64 ((al+x:Nat):Int)));clear hb2;go_wp2_with fail;go_roundw
      case rel=>exact⟨k+1,ao,al+x,by omega,by go_num,Hb2.out,Hr2.out,by have:=Hs1.out;omega,Hlo.out,by rw[Hst.out,←Hs3.out];omega⟩
      case measure=>simp[intOf];omega
    · have HP:=hid (zsc ao al x wr hlo s1' Hs2.out Hx.out);have Hlo:=hid hlo;clear hlo;go_wp2_with fail;refine HP.out.mono ?_;rintro e w2 ⟨rfl,hb2⟩;have Hr2:=hid (((hr.out.later hb2).set 0 (.int .u64 ((ao+1:Nat):Int))).set 1 (.int .u64 ((al+x - 18446744073709551616:Nat):Int)));have f0:=(hr.out.later hb2).fz 0;have f1:=(hr.out.later hb2).fz 1;have p0:=(hr.out.later hb2).cell 0 rfl;have p1:=(hr.out.later hb2).cell 1 rfl;have Hb2:=hid (((Hb.out.trans (hb2.mono (Nat.le_trans (Nat.le_of_eq Hg.out) (by have:=hr.out.lt;have:=Hg.out;omega)))).setCell (p:=⟨g,0,none⟩) (Nat.le_refl _) (.int .u64 ((ao+1:Nat):Int))).setCell (p:=⟨g,1,none⟩) (Nat.le_refl _) (.int .u64 ((al+x - 18446744073709551616:Nat):Int)));have Hy:=hid (show ao+1≤k+1∧al+x - 18446744073709551616<18446744073709551616∧(ao+1)*18446744073709551616+(al+x - 18446744073709551616)=ao*18446744073709551616+al+x from by have:=Hs2.out;have:=Hx.out;have:=Hlo.out;have:=Hs1.out;omega);clear hb2;generalize al+x - 18446744073709551616=y at*;generalize ao+1=ao1 at*;go_wp2_with fail;go_roundw
      case rel=>exact⟨k+1,ao1,y,by omega,by go_num,Hb2.out,Hr2.out,Hy.out.1,Hy.out.2.1,by rw[Hst.out,←Hs3.out];exact Hy.out.2.2⟩
      case measure=>simp[intOf];omega
  · obtain rfl:k=n:=by omega
    have Htk:=hid (show (l.take k).sum=l.sum from by rw[List.take_of_length_le (by rw[Hl.out];exact Nat.le_refl _)]);have Hbf:=hid (show Below w.heap.size w wr from by rw[←Hg.out];exact Hb.out);by_cases hz:ao=0
    · subst hz
      have Hs:=hid (show qm l.sum=.tuple #[.int .u64 ((al:Nat):Int),.bool true] from by
       have:=Hs3.out;have:=Hs2.out;rw[←Htk.out,←Hs3.out];unfold qm;rw[if_pos (by omega)];simp)
      go_wp2_with fail;go_ret2;exact⟨by rw[Hs.out];rfl,Hbf.out⟩
    · have h0:(0:Nat)<ao:=by omega
      have Hs:=hid (show qm l.sum=.tuple #[.int .u64 0,.bool false] from by
       rw[←Htk.out,←Hs3.out];unfold qm;rw[if_neg (by omega)])
      clear hz;go_wp2_with fail;go_ret2;exact⟨by rw[Hs.out];rfl,Hbf.out⟩
end
section
def ja (l:List Nat):List Nat:=l.flatMap yf
def jo (l:List Iv) (a i:Nat):Nat:=if i=0 then (zc l 0).1 else (zc l i).1 - (zc l (i - 1)).2 - 1 - a
def jr (l:List Iv) (a:Nat):Nat→List Nat
 | 0=>[]
 | d+1=>jr l a d++[jo l a d,(zc l d).2 - (zc l d).1]
def zfe (l:List Iv) (a:Nat):List Nat:=jr l a l.length
def zaf (l:List Iv) (a:Nat):Prop:=∀i,i<l.length→(zc l i).1≤(zc l i).2∧(0<i→(zc l (i - 1)).2+1+a≤(zc l i).1)
theorem zku (l:List Iv) (a:Nat):∀d,(jr l a d).length=2*d
 | 0=>rfl
 | d+1=>by rw[jr,List.length_append,zku l a d];simp;omega
theorem zkv {l:List Iv} {a:Nat} (h:yi l):∀d,d≤l.length→∀x∈jr l a d,x<18446744073709551616
 | 0,_,x,hx=>by cases hx
 | d+1,hd,x,hx=>by
   rw[jr] at hx;rcases List.mem_append.1 hx with hx | hx
   · exact zkv h d (by omega) x hx
   · have h1:=h _ (za5 (show d<l.length from hd));simp at hx;rcases hx with rfl | rfl
     · unfold jo;split
       · rename_i e;rw[e] at h1;exact h1.1
       · omega
     · omega
theorem zse {l:List Iv} (h:Good l):zaf l 1:=fun i hi=>by
 have:=za6 h i hi;exact⟨this.1,fun h0=>by have:=this.2 h0;omega⟩
def zbz (v:Vec) (i:Nat):Nat:=if i=0 then (zi v 0).1 else (zi v i).1 - (zi v (i - 1)).1 - 1
def zag (v:Vec) (i:Nat):List Nat:=[zbz v i,(zi v i).2.1,(zi v i).2.2.length]++zfe (zi v i).2.2 1
def ky (v:Vec):Nat→List Nat
 | 0=>[v.length]
 | d+1=>ky v d++zag v d
def zay (v:Vec):List Nat:=ky v v.length
def vx (c:Kno):Nat→List Nat
 | 0=>[c.length]
 | d+1=>vx c d++zay (zf c d).2
def ko (l:List Iv) (x:List Nat):Nat→List Nat
 | 0=>[l.length]
 | d+1=>ko l x d++[jo l 0 d,(zc l d).2 - (zc l d).1,nth x d]
def jj (c:Kno):List Nat:=vx c c.length++ko ((ze c).map (·.1)) ((ze c).map (·.2)) (ze c).length
end
section
open Go.RowKit Go.Shelf
attribute [local go_sem] Oper.semAt_some zeq
theorem zsf (B:Nat) (y:Value) (xs:List Nat) (i:Nat) (s1 s2:Value) (w:World) (ho:w.ownsRow B 3 1 y xs.length (qz xs)) (hB:B≤w.heap.size) (hn:xs.length≤1000):
 Calls Tryz.prog 250 #[y,.int .i64 ((i:Nat):Int),.agg #[s1,s2]] w fun e w'=>(∃v,e=.returned v∧w'.ownsRow B 3 1 v (xs++[i]).length (qz (xs++[i])))∧Below B w w':=by
 have hal:Below w.heap.size w (w.alloc (.cells #[s1,s2] 97)):=(Below.refl _ _).alloc (Nat.le_refl _) _;have Ho:=hid (yk ho hal);have Hal:=hid (hal.mono hB);have Hlt:=hid ((yk ho hal).lt);obtain⟨ao,co,rfl⟩:=jm ho;clear ho hal;go_enter Tryz.func250,Tryz.ntmps250;go_wp2_with (at_builtin;refine zq3 rfl (.tmp 7) (.tmp 9) rfl rfl B _ _ xs rfl (Ho.out.alloc _) _ 1 _ [i] rfl (kx (qj _ _ _ (by simp)) rfl rfl) (by omega) (by simp;omega) ?_;intro v' w8 ho8 hg8);go_ret;refine⟨⟨v',rfl,?_⟩,Below.grown (B:=B) (Hal.out.alloc (by simp;omega) _) hg8 (by simp;omega) (fun k hk=>(Hlt.out k hk).1)⟩;rw[List.length_append];exact ho8
set_option maxRecDepth 20000 in
theorem zsg (w0 w:World) (bk bt:Nat) (a:Option Addr) (m c t:Nat) (k:Kno) (hE:Frags w0 a m c k) (hG:∀f∈k,Good f.1∧f.1.length≤1000000) (hb0:Below w0.heap.size w0 w) (hm:m≤500)
 (hbk:w.heap[bk]?=some (.cells #[.slice a m c] 27)) (hbt:w.heap[bt]?=some (.cells #[.int .u64 t] 43)):
 Calls Tryz.prog 249 #[.func (.func 251) #[] #[.pointer (some ⟨bk,0,none⟩),.pointer (some ⟨bt,0,none⟩)],.slice none 0 0,.func (.func 250) #[] #[]] w fun e w'=>
  (∃y,e=.returned y∧w'.ownsRow w.heap.size 3 1 y (vr k t).length (qz (vr k t)))∧Below w.heap.size w w':=by
 have Hml:=hid (show (vr k t).length≤500 from by
  have:=zqg k t k.length;have h2:vr k t=zac k t k.length:=rfl;rw[h2];have:=hE.len;omega)
 have hbkl:=(Array.getElem?_eq_some_iff.1 hbk).1;have hbtl:=(Array.getElem?_eq_some_iff.1 hbt).1;have hs0:=hb0.size;refine(callsIn_wide (n:=3)).1 ?_;refine callsIn_of_wp_marks Tryz.func249 rfl trivial ?_ rfl;simp only[Tryz.ntmps249,List.size_toArray,List.length_cons,List.length_nil,Nat.reduceAdd,Nat.reduceSub,Array.replicate_succ,Array.replicate_zero,List.push_toArray,List.append_toArray,List.nil_append,List.cons_append];refine wpIn_wide.2 ?_;go_wp2;refine(wpIn_wide (n:=3)).1 ?_;obtain⟨C0,hC0⟩:∃C0:Obj,C0=.cells #[.slice none 0 0] 60:=⟨_,rfl⟩;obtain⟨C1,hC1⟩:∃C1:Obj,C1=.cells #[.func (.func 250) #[] #[]] 343:=⟨_,rfl⟩;rw[←hC0,←hC1];obtain⟨wl,hwl⟩:∃wl:World,wl=(w.alloc C0).alloc C1:=⟨_,rfl⟩;rw[←hwl];have hsz:wl.heap.size=w.heap.size+2:=by rw[hwl];simp
 have hbw:Below w.heap.size w wl:=by
  rw[hwl];exact((Below.refl _ w).alloc (Nat.le_refl _) C0).alloc (by simp) C1
 have e0:wl.heap[w.heap.size]?=some C0:=by rw[hwl];exact zcd (zaa rfl)
 have e1:wl.heap[w.heap.size+1]?=some C1:=by rw[hwl];exact zaa (by simp)
 clear hwl
 refine zq8 (n:=3) (gf:=251) (lb:= #[.pointer (some ⟨bk,0,none⟩),.pointer (some ⟨bt,0,none⟩)]) rfl (enters_of Tryz.func251 (by kernel_rfl) rfl)
  (zrv (3 - 1) w0 wl bk bt a m c t k hE hG (hb0.trans (hbw.mono hs0)) hm ((hbw.block _ hbkl).trans hbk) ((hbw.block _ hbtl).trans hbt))
  (fun x=>rfl) (fun k hk=>hk.elim) (fun k hk=>by omega)
  (fun pre W=>Below w.heap.size w W∧W.heap[w.heap.size+1]?=some C1∧∃v,W.heap[w.heap.size]?=some (.cells #[v] 60)∧W.ownsRow (w.heap.size+4) 3 1 v (pre.map (·.1)).length (qz (pre.map (·.1))))
  (fun _ _ _=>False) ?hI (fun _ _ _ _ h _=>h) ⟨hbw,e1,.slice none 0 0,by rw[e0,hC0],World.ownsRow_nil ..⟩ ?round ?done ?stop
 case hI=>
  rintro s A B ⟨h4,h1,v,h2,h3⟩ hk;have hs:=h4.size;exact⟨h4.trans (hk.toBelow (fun k hk'=>⟨id,by omega,by omega⟩) (by omega)),(hk.row _ (Array.getElem?_eq_some_iff.1 h1).1 ⟨id,by omega,by omega⟩).trans h1,v,(hk.row _ (Array.getElem?_eq_some_iff.1 h2).1 ⟨id,by omega,by omega⟩).trans h2,za3 h3 (fun k hk1 hk2=>hk.row k hk2 ⟨id,by omega,by omega⟩)⟩
 case round=>
  rintro pre ⟨i,s1,s2⟩ W ⟨⟨rest,hV⟩,hsl⟩ ⟨h4,h1,y,h2,h3⟩ hsW;obtain⟨⟨a1,n1,z1,e1',-⟩,a2,n2,z2,e2',-⟩:=hsl (i,s1,s2) (by simp);simp only at e1' e2';subst e1' e2';clear hsl;rw[hsz] at hsW ⊢
  have hlen:(pre.map (·.1)).length+1≤500:=by
   have:=Hml.out;rw[hV,List.length_append,List.map_append,List.length_append] at this;simp at this ⊢;omega
  clear hsz hbw e0 e1 hC0 hV hE hG hbk hbt hb0;simp only[zg0];obtain⟨q,hq⟩:∃q:Nat,q=W.heap.size:=⟨_,rfl⟩
  gi_wp2
  refine⟨(Kept.refl _ W).alloc _,fun W2 hk2 hs2=>?_⟩
  try rw[World.size_alloc] at hs2
  have k1:Kept (fun k=>k≠w.heap.size+2+1) W W2:=((Kept.refl _ W).alloc _).trans hk2;have b1:W2.heap[w.heap.size+1]?=some C1:=(k1.row _ (Array.getElem?_eq_some_iff.1 h1).1 (by omega)).trans h1;have b2:W2.heap[w.heap.size]?=some (.cells #[y] 60):=(k1.row _ (Array.getElem?_eq_some_iff.1 h2).1 (by omega)).trans h2;have b4:W2.heap[q]?=some (.cells #[.slice a1 n1 z1,.slice a2 n2 z2] 97):=by rw[hq];exact(hk2.row _ (by simp) (by omega)).trans (zaa rfl)
  have B3:=hid (za3 h3 (fun k hk1 hk2=>k1.row k hk2 (by omega)));have B4:=hid (h4.trans (k1.toBelow (n:=w.heap.size) (fun k hk'=>by omega) h4.size));rw[←hq];have hB4:w.heap.size+4≤W2.heap.size:=by omega
  have Hb1:=hid b1;have Hb2:=hid b2;rw[hC1] at b1;have c0:=zau b1;have c1:=zau b2;have c2:W2.cell? ⟨q,0,none⟩=some (.slice a1 n1 z1):=kh (i:=0) b4 rfl;have c3:W2.cell? ⟨q,1,none⟩=some (.slice a2 n2 z2):=kh (i:=1) b4 rfl;have HC1:=hid hC1;clear k1 hk2 hs2 h1 h2 h3 h4 b1 b2 b4 hq hsW hC1;have hF:=hid (zsf (w.heap.size+4) y (pre.map (·.1)) i (.slice a1 n1 z1) (.slice a2 n2 z2) W2 B3.out hB4 (by omega))
  gi_wp2_with fail
  refine(CallsIn.inRound _ (callsIn_wide.2 hF.out)).mono ?_;rintro e w3 ⟨⟨v,rfl,ho3⟩,hb3⟩;have d2:=(hb3.block _ (by omega)).trans Hb2.out;have d1:=(hb3.block _ (by omega)).trans Hb1.out;have q5:=zau d2;have q6:=zgp d2;have Hd2:=hid d2;have Hd1:=hid d1;have Ho3:=hid ho3;have Hb3:=hid hb3;obtain⟨av,cv,rfl⟩:=jm ho3;clear c0 c1 c2 c3 d1 d2 ho3 hb3
  gi_wp2
  refine⟨?_,?_,?_,_,zjr Hd2.out,?_⟩
  · exact((zqp Hb3.out).mono (fun k _ hk=>by omega)).setCell (fun _=>by simp only;omega) _
  · exact(B4.out.trans (Hb3.out.mono (by omega))).setCell (Nat.le_refl _) _
  · have h:=Hd1.out;rw[HC1.out] at h;exact(Below.heap_setCell _ _ _ _ (by simp)).trans h
  · have h:=za3 Ho3.out (w':=w3.setCell ⟨w.heap.size,0,none⟩ (.slice av (pre.map (·.1)++[i]).length cv)) (fun k hk1 hk2=>Below.heap_setCell _ _ _ _ (by simp only;omega));simpa using h
 case done=>
  rintro ps W ⟨hS,-⟩ ⟨h4,h1,y,h2,h3⟩ hK;have q1:=zau h2;rw[←hS] at h3;have H3:=hid h3;have H4:=hid h4;clear h1 h2 h3 h4 e0 e1 hS
  gi_wp2
  go_wp2;refine⟨by simp,.inl ⟨_,_,rfl,run_takeDeferred hK,?_⟩⟩;refine⟨_,results_tmp rfl _ _ _,⟨y,rfl,?_⟩,?_⟩
  · refine zad (za3 H3.out (fun k hk1 hk2=>World.putObj_heap_other (by omega))) (by omega)
  · exact(Kept.refl (fun k=>k<w.heap.size) W).putObj (fun _ h=>by have h':wl.heap.size<w.heap.size:=h;omega) _ |>.toBelow (fun _ h=>h) H4.out.size |> H4.out.trans
 case stop=>
  rintro c pre W hV h;exact h.elim
theorem zsh (a:Option Addr) (m c t:Nat) (k:Kno) (w:World) (hE:Frags w a m c k) (hG:∀f∈k,Good f.1∧f.1.length≤1000000) (hm:m≤500):
 Calls Tryz.prog 211 #[.slice a m c,.int .u64 t] w fun e w'=>
  (∃y,e=.returned y∧w'.ownsRow w.heap.size 3 1 y (vr k t).length (qz (vr k t)))∧Below w.heap.size w w':=by
 have hal:Below w.heap.size w ((w.alloc (.cells #[.slice a m c] 27)).alloc (.cells #[.int .u64 t] 43)):=((Below.refl _ _).alloc (Nat.le_refl _) _).alloc (by simp) _;have hC:=hid (zsg w ((w.alloc (.cells #[.slice a m c] 27)).alloc (.cells #[.int .u64 t] 43)) w.heap.size (w.heap.size+1) a m c t k hE hG hal hm (zcd (zaa rfl)) (zaa (by simp)));have Hal:=hid hal;clear hE hG hal;go_enter Tryz.func211,Tryz.ntmps211;go_wp2_with fail;refine(zrt a m c t _).mono ?_;rintro e w1 ⟨rfl,rfl⟩;go_wp2_with fail;refine hC.out.mono ?_;rintro e w2 ⟨⟨y,rfl,ho⟩,hb⟩;have Ho:=hid ho;have Hb:=hid hb;clear ho hb;go_wp2;go_ret;exact⟨⟨y,rfl,zad Ho.out Hal.out.size⟩,Hal.out.trans (Hb.out.mono Hal.out.size)⟩
end
section
open Go.RowKit Go.Shelf
attribute [local go_sem] Oper.semAt_some zeq
theorem KeptT.refl (base:Nat) (T:TypeId→Prop) (A:World):KeptT base T A A:=⟨rfl,rfl,rfl,Nat.le_refl _,fun _ _ _=>rfl⟩
theorem KeptT.trans {base:Nat} {T:TypeId→Prop} {A B C:World} (h:KeptT base T A B) (k:KeptT base T B C):KeptT base T A C:=
 ⟨k.os.trans h.os,k.tape.trans h.tape,k.output.trans h.output,Nat.le_trans h.size k.size,fun i hi hp=>(k.row i (Nat.lt_of_lt_of_le hi h.size) (hp.imp id fun ⟨C,U,fr,hT,hr⟩=>⟨C,U,fr,hT,(h.row i hi (.inr ⟨C,U,fr,hT,hr⟩)).trans hr⟩)).trans (h.row i hi hp)⟩
theorem KeptT.of {base:Nat} {T:TypeId→Prop} {q:Nat→Prop} {A B:World} (h:Kept q A B) (s:Steady base T A B):KeptT base T A B:=⟨h.os,h.tape,h.output,h.size,s.row⟩
set_option maxRecDepth 20000 in
theorem zkw (a:Option Addr) (n c:Nat) (v:Vec) (w:World) (hE:Ents w a n c v) (hn:n≤1000000000000) (hN:(zh v).length≤1000000000000):
 Calls Tryz.prog 191 #[.slice a n c] w fun e w'=>
  (∃y,e=.returned y∧w'.ownsRow w.heap.size 43 1 y (zh v).length (yb (zh v)))∧Below w.heap.size w w':=by
 have HE:=hid hE;have HN:=hid hN;clear hE hN;refine(callsIn_wide (n:=3)).1 ?_;refine callsIn_of_wp_marks Tryz.func191 rfl trivial ?_ rfl;simp only[Tryz.ntmps191,List.size_toArray,List.length_cons,List.length_nil,Nat.reduceAdd,Nat.reduceSub,Array.replicate_succ,Array.replicate_zero,List.push_toArray,List.append_toArray,List.nil_append,List.cons_append];refine wpIn_wide.2 ?_;go_wp2_with (go_at_call 233;refine(zrx _ _ _ _).mono ?_;rintro e w1 ⟨rfl,rfl⟩);refine(wpIn_wide (n:=3)).1 ?_;obtain⟨C0,hC0⟩:∃C0:Obj,C0=.cells #[.slice none 0 0] 41:=⟨_,rfl⟩;obtain⟨C1,hC1⟩:∃C1:Obj,C1=.cells #[.slice a n c] 95:=⟨_,rfl⟩;rw[←hC0,←hC1];have hs1:(w.alloc C0).heap.size=w.heap.size+1:=by simp
 obtain⟨wl,hwl⟩:∃wl:World,wl=(w.alloc C0).alloc C1:=⟨_,rfl⟩;rw[←hwl]
 try rw[hs1]
 have hsz:wl.heap.size=w.heap.size+2:=by rw[hwl];simp
 have hbw:Below w.heap.size w wl:=by
  rw[hwl];exact((Below.refl _ w).alloc (Nat.le_refl _) C0).alloc (by simp) C1
 have e0:wl.heap[w.heap.size]?=some C0:=by rw[hwl];exact zcd (zaa rfl)
 have e1:wl.heap[w.heap.size+1]?=some C1:=by rw[hwl];exact zaa (by simp)
 clear hwl
 refine zra (n:=3) (gf:=262) (lb:= #[.pointer (some ⟨w.heap.size+1,0,none⟩)]) rfl (enters_of Tryz.func262 (by kernel_rfl) rfl)
  (zry (3 - 1) w wl (w.heap.size+1) a n c v HE.out hbw (by rw[e1,hC1]) hn)
  (fun x=>rfl) (fun k hk=>hk.elim) ?hput
  (fun pre W=>Below w.heap.size w W∧∃v,W.heap[w.heap.size]?=some (.cells #[v] 41)∧W.ownsRow (w.heap.size+4) 43 1 v pre.length (yb pre))
  (fun _ _ _=>False) ?hI (fun _ _ _ _ h _=>h) ⟨hbw,.slice none 0 0,by rw[e0,hC0],World.ownsRow_nil ..⟩ ?round ?done ?stop
 case hput=>
  intro A B r o hA hk;rw[hsz] at hA ⊢;refine⟨hk.os,hk.tape,hk.output,by simpa using hk.size,fun k hk1 hp=>?_⟩;refine(World.putObj_heap_other ?_).trans (hk.row k hk1 hp);rintro rfl;rcases hp with h | ⟨C,U,fr,_,h⟩
  · omega
  · rw[hA] at h;cases h
 case hI=>
  rintro s A B ⟨h4,v,h2,h3⟩ hk;have hs:=h4.size;exact⟨h4.trans (hk.toBelow (fun k hk'=>⟨id,by omega,by omega⟩) (by omega)),v,(hk.row _ (Array.getElem?_eq_some_iff.1 h2).1 ⟨id,by omega,by omega⟩).trans h2,za3 h3 (fun k hk1 hk2=>hk.row k hk2 ⟨id,by omega,by omega⟩)⟩
 case round=>
  rintro pre x W ⟨rest,hV⟩ ⟨h4,y,h2,h3⟩ hsW ⟨rl,hrl⟩;rw[hsz] at hsW hrl ⊢
  have hlen:pre.length+1≤1000000000000:=by
   have:=HN.out;rw[hV,List.length_append,List.length_append,List.length_singleton] at this;omega
  clear hsz hbw e0 e1 hC0 hC1 hV
  gi_wp2
  refine⟨Kept.refl _ W,fun W2 hk2 hs2=>?_⟩;have b2:W2.heap[w.heap.size]?=some (.cells #[y] 41):=(hk2.row _ (Array.getElem?_eq_some_iff.1 h2).1 (by omega)).trans h2;have B3:=hid (za3 h3 (fun k hk1 hk2'=>hk2.row k hk2' (by omega)));have B4:=hid (h4.trans (hk2.toBelow (n:=w.heap.size) (fun k hk'=>by omega) h4.size))
  have hst:Steady w.heap.size zd5 W W2:=⟨hk2.size,fun k hk hp=>hk2.row k hk (by
   rintro rfl;rcases hp with h | ⟨C,U,fr,_,h⟩
   · omega
   · rw[hrl] at h;cases h)⟩
  have K2:=hid (And.intro hk2 hst);have hB4:w.heap.size+4≤W2.heap.size:=by omega
  clear hk2 h2 h3 h4 hs2 hst hrl;have hB2:=B4.out.size;obtain⟨ao,co,rfl⟩:=jm B3.out;have q1:=zau b2;have q2:=zgp b2;have Hb2:=hid b2;clear b2;obtain⟨v',w5,hr,ho,hgr⟩:=ze1 (w.heap.size+4) (.slice ao pre.length co) pre.length pre (B3.out.alloc (.cells #[.int .u64 x] 43)) (some ⟨W2.heap.size,0,none⟩) 1 1 [x] (kx (qj _ _ _ rfl) rfl rfl) (by omega) (by simp;omega);obtain⟨g',cap',rfl⟩:=ownsRow_succ ho;have hne:some w.heap.size≠(.slice ao pre.length co:Value).ownBlock:=fun e=>by have:=(B3.out.lt _ e.symm).1;omega
  have e5:w5.heap[w.heap.size]?=some (.cells #[.slice ao pre.length co] 41):=(hgr.block _ (by simp;omega) hne).trans (zcd Hb2.out);have q5:=zau e5;have q6:=zgp e5;have He5:=hid e5;have Ho:=hid ho;have Hgr:=hid hgr;clear e5 ho hgr hne
  gi_wp2_with (gi_at_builtin;refine zpg rfl _ _ 41 rfl _ _ rfl rfl _ _ hr ?_)
  refine⟨?_,⟨?_,_,zjr He5.out,?_⟩,?_⟩
  · exact(((Kept.refl _ W2).alloc _).grown Hgr.out (fun k hk _=>by have:=(B3.out.lt k hk).1;omega)).setCell (fun _=>by simp only;omega) _
  · exact((B4.out.alloc B4.out.size _).grown Hgr.out (by simp;omega) (fun k hk=>by have:=(B3.out.lt k hk).1;omega)).setCell (by simp only;omega) _
  · have h:=za3 Ho.out (w':=w5.setCell ⟨w.heap.size,0,none⟩ (.slice (some ⟨g',0,none⟩) (pre.length+1) cap')) (fun k hk1 hk2=>Below.heap_setCell _ _ _ _ (by simp only;omega));rw[List.length_append];exact h
  · have s1:Steady w.heap.size zd5 W2 (W2.alloc (.cells #[.int .u64 x] 43)):=.of_below ((Below.refl _ _).alloc (Nat.le_refl _) _);have s2:Steady w.heap.size zd5 (W2.alloc (.cells #[.int .u64 x] 43)) w5:=Steady.grown (zad (b:=w.heap.size) (B3.out.alloc _) (by omega)) Hgr.out (by rintro(h | h | h) <;> cases h);have s3:Steady w.heap.size zd5 w5 (w5.setCell ⟨w.heap.size,0,none⟩ (.slice (some ⟨g',0,none⟩) (pre.length+1) cap')):=Steady.setCell (a:=⟨w.heap.size,0,none⟩) He5.out (Nat.le_refl _) (by rintro(h | h | h) <;> cases h);refine KeptT.of (q:=fun _=>False) (K2.out.1.mono (fun _ _ h=>h.elim) |>.trans ?_) (((K2.out.2.trans s1).trans s2).trans s3);exact(((Kept.refl _ W2).alloc _).grown Hgr.out (fun k hk _ h=>h)).setCell (fun _ h=>h) _
 case done=>
  rintro ps W rfl ⟨h4,y,h2,h3⟩ hK;have q1:=zau h2;have H3:=hid h3;have H4:=hid h4;clear h2 h3 h4 e0 e1
  gi_wp2
  go_wp2;refine⟨by simp,.inl ⟨_,_,rfl,run_takeDeferred hK,?_⟩⟩;refine⟨_,results_tmp rfl _ _ _,⟨y,rfl,?_⟩,?_⟩
  · refine zad (za3 H3.out (fun k hk1 hk2=>World.putObj_heap_other (by omega))) (by omega)
  · exact(Kept.refl (fun k=>k<w.heap.size) W).putObj (fun _ h=>by have h':wl.heap.size<w.heap.size:=h;omega) _ |>.toBelow (fun _ h=>h) H4.out.size |> H4.out.trans
 case stop=>
  rintro c pre W hV h;exact h.elim
end
