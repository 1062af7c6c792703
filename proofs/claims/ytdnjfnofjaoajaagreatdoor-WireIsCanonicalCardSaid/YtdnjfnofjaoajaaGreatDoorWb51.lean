/- Walks and laws, joined: Wb51. -/
import Derived.Test.YtdnjfnofjaoajaaGreatDoorWb47
set_option linter.unusedVariables false
set_option maxHeartbeats 16000000
namespace Go.Proofs.YtdnjfnofjaoajaaGreatDoor
open Lib (hid)
section
open Go.RowKit Go.Shelf
attribute [local go_sem] Oper.semAt_some zd7
theorem ybd {g:Bool→Bool→Bool}:∀{ps:List Pc},(∀p∈ps,g p.2.1 p.2.2=false)→zaq g ps=[]:=by
 intro ps;unfold zaq
 have:∀(l:List (Iv×Bool)),(∀q∈l,q.2=false)→qu l []=[]:=by
  intro l
  induction l with
  | nil=>intro _;rfl
  | cons q l ih=>
   intro h;obtain⟨s,b⟩:=q;have hb:b=false:=h _ List.mem_cons_self;subst hb;exact ih fun r hr=>h r (List.mem_cons_of_mem _ hr)
 intro h;refine this _ fun q hq=>?_
 obtain⟨p,hp,rfl⟩:=List.mem_map.1 hq;exact h p hp
theorem ybe {a b:List Iv} (ha:zq a) (hb:zq b) {x:Nat} (h1:mem a x=true) (h2:mem b x=true):zbz a b=false:=by
 unfold zbz;rw[decide_eq_false_iff_not];intro h;have:=(zai (g:=kq) ha hb rfl).2.1 x;rw[h,h1,h2,zbx] at this;cases this
set_option maxRecDepth 20000 in
theorem ybf (aa ab:Option Addr) (na ca nb cb:Nat) (a b:List Iv) (w:World) (hIa:Ivs w aa na ca a) (hIb:Ivs w ab nb cb b) (ga:Good a) (gb:Good b):
 Calls Tryz.prog 230 #[.slice aa na ca,.slice ab nb cb,.agg #[.bool true,.bool true]] w fun e w'=>e=.returned (.bool (zbz a b))∧Below w.heap.size w w':=by
 have Hla:=hid (show zq a from hIa.lt);have Hlb:=hid (show zq b from hIb.lt);have HIa:=hid hIa;have HIb:=hid hIb;have Hga:=hid ga;have Hgb:=hid gb;clear hIa hIb ga gb;refine(callsIn_wide (n:=3)).1 ?_;refine callsIn_of_wp_marks Tryz.func230 rfl trivial ?_ rfl;simp only[Tryz.ntmps230,List.size_toArray,List.length_cons,List.length_nil,Nat.reduceAdd,Nat.reduceSub,Array.replicate_succ,Array.replicate_zero,List.push_toArray,List.append_toArray,List.nil_append,List.cons_append];refine wpIn_wide.2 ?_;go_wp2_with (go_at_call 231;refine(zog _ _ _ _ _ _ _).mono ?_;rintro e w1 ⟨rfl,rfl⟩);refine(wpIn_wide (n:=3)).1 ?_;obtain⟨C0,hC0⟩:∃C0:Obj,C0=.cells #[.bool true,.bool true] 273:=⟨_,rfl⟩;obtain⟨C1,hC1⟩:∃C1:Obj,C1=.cells #[.bool false] 4:=⟨_,rfl⟩;obtain⟨C2,hC2⟩:∃C2:Obj,C2=.cells #[.slice aa na ca] 81:=⟨_,rfl⟩;obtain⟨C3,hC3⟩:∃C3:Obj,C3=.cells #[.slice ab nb cb] 81:=⟨_,rfl⟩;rw[←hC0,←hC1,←hC2,←hC3];obtain⟨wl,hwl⟩:∃wl:World,wl=(((w.alloc C0).alloc C1).alloc C2).alloc C3:=⟨_,rfl⟩;rw[←hwl];have hsz:wl.heap.size=w.heap.size+4:=by rw[hwl];simp
 have hbw:Below w.heap.size w wl:=by
  rw[hwl];exact((((Below.refl _ w).alloc (Nat.le_refl _) C0).alloc (by simp) C1).alloc (by simp;omega) C2).alloc (by simp;omega) C3
 have e0:wl.heap[w.heap.size]?=some C0:=by rw[hwl];exact qk (qk (qk (z7 rfl)))
 have e1:wl.heap[w.heap.size+1]?=some C1:=by rw[hwl];exact qk (qk (z7 (by simp)))
 have e2:wl.heap[w.heap.size+2]?=some C2:=by rw[hwl];exact qk (z7 (by simp))
 have e3:wl.heap[w.heap.size+3]?=some C3:=by rw[hwl];exact z7 (by simp)
 clear hwl
 refine zhp (n:=3) (gf:=259) (lb:= #[.pointer (some ⟨w.heap.size+2,0,none⟩),.pointer (some ⟨w.heap.size+3,0,none⟩)]) rfl (enters_of Tryz.func259 (by kernel_rfl) rfl)
  (zoh (3 - 1) w wl (w.heap.size+2) (w.heap.size+3) a b Hga.out Hgb.out hbw ⟨aa,na,ca,by rw[e2,hC2],HIa.out⟩ ⟨ab,nb,cb,by rw[e3,hC3],HIb.out⟩ (by omega) (by omega) (by omega))
  (fun x=>rfl) (fun k hk=>by omega) (fun k hk=>by omega)
  (fun pre W=>W.heap[w.heap.size]?=some C0∧W.heap[w.heap.size+1]?=some C1∧Below w.heap.size w W∧∀p∈pre,kq p.2.1 p.2.2=false)
  (fun cd pre W=>cd=.ret∧W.heap[w.heap.size+1]?=some (.cells #[.bool false] 4)∧Below w.heap.size w W∧zbz a b=false) ?hI ?hIx ⟨e0,e1,hbw,fun p hp=>by cases hp⟩ ?round ?done ?stop
 case hI=>
  rintro s A B ⟨h1,h2,h4,h3⟩ hk;have hs:=h4.size;exact⟨(hk.row _ (Array.getElem?_eq_some_iff.1 h1).1 (by omega)).trans h1,(hk.row _ (Array.getElem?_eq_some_iff.1 h2).1 (by omega)).trans h2,h4.trans (hk.toBelow (fun k hk'=>by omega) (by omega)),h3⟩
 case hIx=>
  rintro cd s A B ⟨h0,h2,h4,h3⟩ hk;have hs:=h4.size;exact⟨h0,(hk.row _ (Array.getElem?_eq_some_iff.1 h2).1 (by omega)).trans h2,h4.trans (hk.toBelow (fun k hk'=>by omega) (by omega)),h3⟩
 case round=>
  rintro pre ⟨⟨p,q⟩,x,y⟩ W ⟨Y,hV⟩ ⟨h1,h2,h4,h3⟩ hsW;rw[hsz] at hsW ⊢;clear hsz;have hch:=zev hV;have hmx:mem a p=x∧mem b p=y:=hch.2.2.2.2.1 p (Nat.le_refl _) hch.2.1;have Hmx:=hid hmx;clear hV hch hmx hbw e0 e1 e2 e3 hC2 hC3;have H3:=hid h3;have H4:=hid h4;have h4s:=h4.size;clear h3 h4;obtain⟨m,hm⟩:∃m:Nat,m=W.heap.size:=⟨_,rfl⟩;simp only[pcE,ivV]
  gi_wp2
  refine⟨(Kept.refl _ W).alloc _,fun W2 hk2 hs2=>?_⟩
  try rw[World.size_alloc] at hs2
  have k1:Kept (fun k=>k≠w.heap.size+4+1) W W2:=((Kept.refl _ W).alloc _).trans hk2;have b1:W2.heap[w.heap.size]?=some C0:=(k1.row _ (Array.getElem?_eq_some_iff.1 h1).1 (by omega)).trans h1;have b2:W2.heap[w.heap.size+1]?=some C1:=(k1.row _ (Array.getElem?_eq_some_iff.1 h2).1 (by omega)).trans h2;have b4:W2.heap[m]?=some (.cells #[.bool x,.bool y] 273):=by rw[hm];exact(hk2.row _ (by simp) (by omega)).trans (z7 rfl)
  have B4:=hid (H4.out.trans (k1.toBelow (n:=w.heap.size) (fun k hk'=>by omega) (by omega)));rw[←hm];have Hb1:=hid b1;have Hb2:=hid b2;rw[hC0] at b1;rw[hC1] at b2;have c0:W2.cell? ⟨w.heap.size,0,none⟩=some (.bool true):=zu (i:=0) b1 rfl;have c1:W2.cell? ⟨w.heap.size,1,none⟩=some (.bool true):=zu (i:=1) b1 rfl;have c2:W2.cell? ⟨m,0,none⟩=some (.bool x):=zu (i:=0) b4 rfl;have c3:W2.cell? ⟨m,1,none⟩=some (.bool y):=zu (i:=1) b4 rfl;have c4:=y7 b2;have c5:=zam b2;have HC:=hid (And.intro hC0 hC1);clear k1 hk2 hs2 h1 h2 H4 b1 b2 b4 hC0 hC1 hm hsW
  cases hxy:kq x y with
  | true=>
   have hx:x=true:=by cases x <;> simp[kq] at hxy ⊢
   have hy:y=true:=by cases y <;> simp[kq] at hxy ⊢
   subst hx;subst hy;have Hno:=hid (ybe Hla.out Hlb.out Hmx.out.1 Hmx.out.2);clear hxy
   gi_wp2
   refine⟨(Kept.refl _ W2).setCell (fun _=>by simp only;omega) _,rfl,?_,B4.out.setCell (by simp only;omega) _,Hno.out⟩;have h:=Hb2.out;rw[HC.out.2] at h
   exact zcj h
  | false=>
   have Hpre:=hid (show ∀p'∈pre++[((p,q),x,y)],kq p'.2.1 p'.2.2=false from fun p' hp'=>by
    rcases List.mem_append.1 hp' with h | h
    · exact H3.out p' h
    · rw[List.mem_singleton] at h;rw[h];exact hxy)
   cases x <;> cases y <;> first
    | (exfalso;simp[kq] at hxy;done)
    | (clear hxy
       gi_wp2
       exact⟨Kept.refl _ W2,Hb1.out,Hb2.out,B4.out,Hpre.out⟩)
 case done=>
  rintro ps W hS ⟨h1,h2,h4,h3⟩ hK;have hall:=zm8 (g:=kq) Hla.out Hlb.out rfl hS;rw[ybd h3] at hall;have Hd:=hid (show zbz a b=true from by unfold zbz;rw[←hall];rfl);rw[hC1] at h2;have c4:=y7 h2;have c5:=zam h2;have H2:=hid h2;have H4:=hid h4;have HK:=hid hK;clear h1 h2 h3 h4 hS hK hall e0 e1 e2 e3
  gi_wp2
  go_wp2;have hne:wl.heap.size≠w.heap.size+1:=by omega
  refine⟨by simp,.inl ⟨_,_,rfl,run_takeDeferred ((Below.heap_setCell _ _ _ _ hne).trans HK.out),?_⟩⟩;have h5:((W.setCell ⟨w.heap.size+1,0,none⟩ (.bool true)).putObj wl.heap.size (.deferred none)).heap[w.heap.size+1]?=some (.cells #[.bool true] 4):=(World.putObj_heap_other (Ne.symm hne)).trans (zcj H2.out);have q5:=y7 h5;refine⟨.bool true,by simp[results,Tryz.results230,go_sem,q5],by rw[Hd.out],?_⟩;exact H4.out.trans (((Kept.refl (fun k=>k<w.heap.size) W).setCell (fun _ h=>by have h':w.heap.size+1<w.heap.size:=h;omega) _ |>.putObj (fun _ h=>by have h':wl.heap.size<w.heap.size:=h;omega) _).toBelow (fun _ h=>h) H4.out.size)
 case stop=>
  rintro c pre W hV ⟨rfl,h2,h4,h3⟩ hK;have c4:=y7 h2;have H4:=hid h4;have H3:=hid h3;have HK:=hid hK
  gi_wp2
  refine⟨by simp,.inl ⟨_,_,rfl,run_takeDeferred HK.out,?_⟩⟩;have h5:(W.putObj wl.heap.size (.deferred none)).heap[w.heap.size+1]?=some (.cells #[.bool false] 4):=(World.putObj_heap_other (by omega)).trans h2;have q5:=y7 h5;refine⟨.bool false,by simp[results,Tryz.results230,go_sem,q5],by rw[H3.out],?_⟩;exact H4.out.trans ((Kept.refl (fun k=>k<w.heap.size) W).putObj (fun _ h=>by have h':wl.heap.size<w.heap.size:=h;omega) _ |>.toBelow (fun _ h=>h) H4.out.size)
theorem ybg (aa ab:Option Addr) (na ca nb cb:Nat) (a b:List Iv) (w:World) (hIa:Ivs w aa na ca a) (hIb:Ivs w ab nb cb b) (ga:Good a) (gb:Good b):
 Calls Tryz.prog 178 #[.slice aa na ca,.slice ab nb cb] w fun e w'=>e=.returned (.bool (zbz a b))∧Below w.heap.size w w':=by
 have hC:=hid (ybf aa ab na ca nb cb a b w hIa hIb ga gb);clear hIa hIb ga gb;generalize zbz a b=z at*;go_enter Tryz.func178,Tryz.ntmps178;go_wp2_with fail;refine hC.out.mono ?_;rintro e w1 ⟨rfl,hb⟩;have Hb:=hid hb;clear hb;go_wp2;go_ret;exact⟨rfl,Hb.out⟩
end
section
open Go.RowKit
theorem ybh (e:Ent) (a:Option Addr) (n c x:Nat) (w:World) (hI:Ivs w a n c e.2.2) (hG:Good e.2.2) (hn:n≤1000000):
 Calls Tryz.prog 258 #[ky e (.slice a n c),.int .u64 x] w fun y w'=>y=.returned (.bool (zbn e x))∧Below w.heap.size w w':=by
 obtain⟨r,m,hs⟩:=e;simp only at hI hG;have Hal:=hid ((Below.refl w.heap.size w).alloc (Nat.le_refl _) (.cells #[.int .u64 r,.int .u64 m,.slice a n c] 101));have hC:=hid (zn1 a n c x hs _ (hI.below Hal.out) hG hn);have HkE:=hid (show zbn (r,m,hs) x=(decide (x≤m) && !mem hs x) from rfl);obtain⟨q0,q1,q2⟩:=zcc w (.int .u64 r) (.int .u64 m) (.slice a n c) 101 _ (Below.refl _ _);clear hI hG;generalize mem hs x=b at*;by_cases h:x≤m
 · have hd1:decide ((x:Int)≤(m:Int))=true:=by rw[decide_eq_true_iff];omega
   have hd2:decide (x≤m)=true:=by rw[decide_eq_true_iff];omega
   rw[hd2] at HkE;clear h;go_enter Tryz.func258,Tryz.ntmps258;go_wp2_with fail;refine hC.out.mono ?_;rintro e w1 ⟨rfl,hb1⟩;have Hb1:=hid hb1;clear hb1;go_wp2;go_ret;exact⟨by rw[HkE.out];rfl,Hal.out.trans (Hb1.out.mono Hal.out.size)⟩
 · have hd1:decide ((x:Int)≤(m:Int))=false:=by rw[decide_eq_false_iff_not];omega
   have hd2:decide (x≤m)=false:=by rw[decide_eq_false_iff_not];omega
   rw[hd2] at HkE;clear h hC;go_enter Tryz.func258,Tryz.ntmps258;go_wp2;go_ret;exact⟨by rw[HkE.out];rfl,Hal.out⟩
theorem ybi (e:Ent) (a:Option Addr) (n c:Nat) (w:World) (hI:Ivs w a n c e.2.2) (hD:Door w) (hm:e.2.1<18446744073709551616) (hn:n≤1000000):
 Calls Tryz.prog 229 #[ky e (.slice a n c)] w fun y w'=>y=.returned (.bool (ve e))∧Below w.heap.size w w':=by
 obtain⟨r,m,hs⟩:=e;simp only at hI hm;have hal:Below w.heap.size w (w.alloc (.cells #[.int .u64 r,.int .u64 m,.slice a n c] 101)):=(Below.refl _ _).alloc (Nat.le_refl _) _;have HX:=hid (zcc w (.int .u64 r) (.int .u64 m) (.slice a n c) 101);have HI:=hid (hI.below hal);have hC:=hid (zt7 (r,m,hs) a n c _ (hI.below hal) (hD.below (Nat.le_refl _) hal));have Hal:=hid hal;have hH:=hid (fun w' (h:Below (w.alloc (.cells #[.int .u64 r,.int .u64 m,.slice a n c] 101)).heap.size (w.alloc (.cells #[.int .u64 r,.int .u64 m,.slice a n c] 101)) w') (hG:Good hs)=>ybh (r,m,hs) a n c m w' (HI.out.below h) hG hn);obtain⟨q0,q1,q2⟩:=HX.out _ (Below.refl _ _);clear hI hm hal hD
 cases h:ckE (r,m,hs) with
 | some x=>
  obtain⟨cd,ci⟩:=x;have Hcan:=hid (show ve (r,m,hs)=false from by unfold ve;rw[h];rfl);rw[h] at hC;simp only[yj,yl] at hC;clear h;go_enter Tryz.func229,Tryz.ntmps229;go_wp2_with fail;refine hC.out.mono ?_;rintro e w1 ⟨rfl,hb1⟩;have Hb1:=hid hb1;clear hb1;go_wp2;go_ret
  exact⟨by rw[Hcan.out];rfl,Hal.out.trans (Hb1.out.mono Hal.out.size)⟩
 | none=>
  have Hcan:=hid (show ve (r,m,hs)=zbn (r,m,hs) m from by unfold ve zbn;rw[h];simp);have hG:=(zh3.1 h).1;simp only at hG;rw[h] at hC;simp only[yj,yl] at hC;have hH:=hid (fun w' h=>hH.out w' h hG);clear h hG;generalize zbn (r,m,hs) m=b at*;go_enter Tryz.func229,Tryz.ntmps229;go_wp2_with fail;refine hC.out.mono ?_;rintro e w1 ⟨rfl,hb1⟩;have Hb1:=hid hb1;clear hb1 q0 q1 q2;obtain⟨q0,q1,q2⟩:=HX.out _ Hb1.out;go_wp2_with fail;refine(hH.out _ Hb1.out).mono ?_;rintro e w2 ⟨rfl,hb2⟩;have Hb2:=hid hb2;clear hb2;go_wp2;go_ret;exact⟨by rw[Hcan.out];rfl,(Hal.out.trans (Hb1.out.mono Hal.out.size)).trans (Hb2.out.mono (Nat.le_trans Hal.out.size Hb1.out.size))⟩
end
section
open Go.RowKit
attribute [local go_sem] vq
theorem ybj (e:Ent) (a:Option Addr) (n c:Nat) (w:World) (hI:Ivs w a n c e.2.2) (hD:Door w) (hm:e.2.1<18446744073709551616) (hn:n≤1000000):
 Calls Tryz.prog 228 #[ky e (.slice a n c)] w fun y w'=>y=.returned (.bool (!ve e))∧Below w.heap.size w w':=by
 have hal:Below w.heap.size w (w.alloc (.cells #[.int .u64 e.1,.int .u64 e.2.1,.slice a n c] 101)):=(Below.refl w.heap.size w).alloc (Nat.le_refl _) _;have hC:=hid (ybi e a n c _ (hI.below hal) (hD.below (Nat.le_refl _) hal) hm hn);obtain⟨er,em,eh⟩:=e;obtain⟨q0,q1,q2⟩:=zcc w (.int .u64 er) (.int .u64 em) (.slice a n c) 101 _ (Below.refl _ _);have Hal:=hid hal;simp only at hC Hal;clear hI hD hm hal;generalize ve (er,em,eh)=b at*;go_enter Tryz.func228,Tryz.ntmps228;go_wp2_with fail;refine hC.out.mono ?_;rintro e w1 ⟨rfl,hb1⟩;have Hb1:=hid hb1;clear hb1;go_wp2;go_ret;exact⟨rfl,Hal.out.trans (Hb1.out.mono Hal.out.size)⟩
set_option maxRecDepth 20000 in
theorem ybk (a:Option Addr) (n cap:Nat) (v:Vec) (w:World) (hE:Ents w a n cap v) (hD:Door w) (hs:∀e∈v,e.2.2.length≤1000000):
 Calls Tryz.prog 257 #[.slice a n cap,.func (.func 228) #[] #[]] w fun x w'=>
  x=.returned (.int .i64 (zax (qj (fun i=>if ve (zc v i)=true then none else some i) v.length)))∧Below w.heap.size w w':=by
 have HE:=hid hE;have HD:=hid hD;have Hs:=hid hs;have Hl:=hid hE.len;have hm:n≤9223372036854775807:=Nat.le_trans hE.room hE.most;obtain⟨f,hf⟩:∃f:Nat→Option Nat,f=fun i=>if ve (zc v i)=true then none else some i:=⟨_,rfl⟩
 rw[←hf];have Hf:=hid (show ∀i,f i=if ve (zc v i)=true then none else some i from fun i=>by rw[hf]);clear hE hD hs hf;go_enter Tryz.func257,Tryz.ntmps257;go_wp2;go_loopw [5,8] (fun _ i wr=>∃d:Nat,d≤n∧i=.int .i64 d∧Below w.heap.size w wr∧Hid (∀j,j<d→f j=none)) (fun _ i _=>n - (intOf i).toNat)
 case atStart=>exact⟨0,by omega,rfl,Below.refl _ _,fun j h=>by omega⟩
 case round=>
  obtain⟨d,hd,rfl,hb,ht⟩:=hrel;have Hb:=hid hb;clear hb;by_cases hdn:d<n
  · have hdk:d<v.length:=by rw[Hl.out];exact hdn
    have HEr:=hid (HE.out.below Hb.out);obtain⟨bb,oo,rfl⟩:=HEr.out.some (by omega);obtain⟨x,m,c,hq⟩:=HEr.out.fix hdn;obtain⟨q1,q2,q3,q4⟩:=hq _ (Below.refl _ _);have hlt:=HE.out.lt _ (jb hdk);have hC:=hid (ybj (zc v d) x m c wr q4 (HD.out.below (Nat.le_refl _) Hb.out) hlt.max (by rw[←q4.len];exact Hs.out _ (jb hdk)));have Hat:=hid (Hf.out d);clear hq q4 hlt;generalize zc v d=e at*;generalize ve e=b at*;obtain⟨er,em,eh⟩:=e;simp only at q1 q2 q3;have h0:(0:Int)≤d:=by omega
    have h04:(d:Int)<(n:Int):=by omega
    cases b with
    | true=>
     have Hr:=hid (ko ht.out (Hat.out.trans (if_pos rfl)));go_wp2_with fail;refine hC.out.mono ?_;rintro e w1 ⟨rfl,hb1⟩;have Hb1:=hid (Hb.out.trans (hb1.mono Hb.out.size));clear hb1;go_wp2;go_roundw
     case rel=>exact⟨d+1,by omega,by go_num,Hb1.out,Hr.out⟩
     case measure=>simp[intOf];omega
    | false=>
     have Hr:=hid (jg hdk ht.out (Hat.out.trans (if_neg (by simp))));go_wp2_with fail;refine hC.out.mono ?_;rintro e w1 ⟨rfl,hb1⟩;have Hb1:=hid (Hb.out.trans (hb1.mono Hb.out.size));clear hb1;go_wp2;go_ret;exact⟨by rw[Hr.out];rfl,Hb1.out⟩
  · obtain rfl:d=n:=by omega
    have Hr:=hid (k7 (n:=v.length) (fun j hj=>ht.out j (by rw[←Hl.out];exact hj)));go_wp2;go_ret;exact⟨by rw[Hr.out];rfl,Hb.out⟩
theorem ybl (a:Option Addr) (n cap:Nat) (v:Vec) (w:World) (hE:Ents w a n cap v) (hD:Door w) (hs:∀e∈v,e.2.2.length≤1000000):
 Calls Tryz.prog 227 #[.slice a n cap,.func (.func 228) #[] #[]] w fun x w'=>
  x=.returned (.bool (!v.all ve))∧Below w.heap.size w w':=by
 have hC:=hid (ybk a n cap v w hE hD hs);clear hE hD hs
 cases h:qj (fun i=>if ve (zc v i)=true then none else some i) v.length with
 | none=>
  have hall:v.all ve=true:=by
   rw[List.all_eq_true];intro e he;obtain⟨i,hi,rfl⟩:=List.getElem_of_mem he;have:=zd5 h i hi;split at this
   · rename_i h2;rwa [qn hi] at h2
   · cases this
  have Hall:=hid hall;rw[h] at hC;simp only[zax] at hC;clear h hall;go_enter Tryz.func227,Tryz.ntmps227;go_wp2_with fail;refine hC.out.mono ?_;rintro e w1 ⟨rfl,hb1⟩;have Hb1:=hid hb1;clear hb1;go_wp2;go_ret
  exact⟨by rw[Hall.out];rfl,Hb1.out⟩
 | some i=>
  have hall:v.all ve=false:=by
   obtain⟨j,hj,-,h3⟩:=zd6 h;rw[Bool.eq_false_iff];intro h2;rw[List.all_eq_true] at h2;rw[if_pos (h2 _ (jb hj))] at h3;cases h3
  have Hall:=hid hall;rw[h] at hC;simp only[zax] at hC;have hd:decide ((0:Int)≤(i:Int))=true:=by rw[decide_eq_true_iff];omega
  clear h hall;go_enter Tryz.func227,Tryz.ntmps227;go_wp2_with fail;refine hC.out.mono ?_;rintro e w1 ⟨rfl,hb1⟩;have Hb1:=hid hb1;clear hb1;go_wp2;go_ret;exact⟨by rw[Hall.out];rfl,Hb1.out⟩
theorem ybm (a:Option Addr) (n cap:Nat) (v:Vec) (w:World) (hE:Ents w a n cap v) (hD:Door w) (hs:∀e∈v,e.2.2.length≤1000000):
 Calls Tryz.prog 176 #[.slice a n cap] w fun x w'=>x=.returned (.bool (za9 v))∧Below w.heap.size w w':=by
 have hC:=hid (zt9 a n cap v w hE hD);have hN:=hid (fun w' (h:Below w.heap.size w w')=>ybl a n cap v w' (hE.below h) (hD.below (Nat.le_refl _) h) hs);have Hcv:=hid (show za9 v=(decide (ckV v=none) && v.all ve) from rfl);clear hE hD hs;generalize v.all ve=b at*
 cases h:ckV v with
 | some x=>
  obtain⟨cd,ci⟩:=x;rw[h] at hC Hcv;simp only[yj,yl] at hC;have Hf:=hid (show za9 v=false from by rw[Hcv.out];rfl);clear h;go_enter Tryz.func176,Tryz.ntmps176;go_wp2_with fail;refine hC.out.mono ?_;rintro e w1 ⟨rfl,hb1⟩;have Hb1:=hid hb1;clear hb1;go_wp2;go_ret
  exact⟨by rw[Hf.out];rfl,Hb1.out⟩
 | none=>
  rw[h] at hC Hcv;simp only[yj,yl] at hC;have Hf:=hid (show za9 v=b from by rw[Hcv.out];simp);clear h;go_enter Tryz.func176,Tryz.ntmps176;go_wp2_with fail;refine hC.out.mono ?_;rintro e w1 ⟨rfl,hb1⟩;have Hb1:=hid hb1;clear hb1;go_wp2_with fail;refine(hN.out _ Hb1.out).mono ?_;rintro e w2 ⟨rfl,hb2⟩;have Hb2:=hid (Hb1.out.trans (hb2.mono Hb1.out.size));clear hb2;cases b <;> (go_wp2;go_ret;exact⟨by rw[Hf.out];rfl,Hb2.out⟩)
end
section
open Go.RowKit
def jj (k:Kno) (d:Nat):List Iv:=(k.take d).foldl (fun l f=>opL gOr l f.1) []
theorem zyc:∀{k:Kno} {l:List Iv},(∀f∈k,zq f.1)→Good l→zq l→
 Good (k.foldl (fun l f=>opL gOr l f.1) l)∧zq (k.foldl (fun l f=>opL gOr l f.1) l)∧(∀x,mem (k.foldl (fun l f=>opL gOr l f.1) l) x=(mem l x || k.any fun f=>mem f.1 x))∧
 (k.foldl (fun l f=>opL gOr l f.1) l).length≤l.length+yf k
 | [],l,_,h1,h2=>⟨h1,h2,fun x=>by simp,by simp[yf]⟩
 | f :: k,l,h,h1,h2=>by
   obtain⟨g1,g2,g3⟩:=zai (g:=gOr) h2 (h f List.mem_cons_self) rfl;obtain⟨a1,a2,a3,a4⟩:=zyc (k:=k) (l:=opL gOr l f.1) (fun g hg=>h g (List.mem_cons_of_mem _ hg)) g1 g3;have hl:=zj8 h2 (h f List.mem_cons_self);refine⟨a1,a2,fun x=>?_,?_⟩
   · rw[List.foldl_cons,a3,g2,List.any_cons];unfold gOr;rw[Bool.or_assoc]
   · rw[List.foldl_cons,yf];omega
theorem zpr {k:Kno} (h:∀f∈k,zq f.1) (d:Nat):Good (jj k d)∧zq (jj k d)∧(∀x,mem (jj k d) x=(k.take d).any fun f=>mem f.1 x)∧(jj k d).length≤yf k:=by
 obtain⟨a1,a2,a3,a4⟩:=zyc (k:=k.take d) (l:=[]) (fun f hf=>h f (List.mem_of_mem_take hf)) trivial (fun s hs=>by cases hs);refine⟨a1,a2,fun x=>?_,?_⟩
 · show mem (List.foldl _ _ _) x=_;rw[a3];simp[zbx]
 · have:=zic k d;have e:(jj k d).length=((k.take d).foldl (fun l f=>opL gOr l f.1) []).length:=rfl;rw[e];simp only[List.length_nil] at a4;omega
theorem ybn {k:Kno} {d:Nat} (h:d<k.length):jj k (d+1)=opL gOr (jj k d) (za k d).1:=by
 unfold jj;rw[List.take_succ_eq_append_getElem h,List.foldl_append,ym h]
 rfl
theorem ybo {k:Kno} (h:∀f∈k,zq f.1) {i:Nat} (hi:i<k.length):(!zbz (za k i).1 (jj k i))=(List.range i).any fun j=>decide (opL kq (za k i).1 (za k j).1≠[]):=by
 obtain⟨b1,b2,b3,-⟩:=zpr h i;have hli:=h _ (yb hi)
 have hiff:∀{a b:List Iv},zq a→zq b→(opL kq a b≠[]↔∃x,mem a x=true∧mem b x=true):=by
  intro a b ha hb;obtain⟨g1,g2,g3⟩:=zai (g:=kq) ha hb rfl;constructor
  · intro hne;obtain⟨x,hx⟩:=zj3 g1 hne;rw[g2] at hx;unfold kq at hx;rw[Bool.and_eq_true] at hx;exact⟨x,hx⟩
  · rintro⟨x,h1,h2⟩ he;have:=g2 x;rw[he,zbx,h1,h2] at this;cases this
 rw[Bool.eq_iff_iff];unfold zbz;rw[Bool.not_eq_true',decide_eq_false_iff_not,List.any_eq_true];constructor
 · intro hne;obtain⟨x,h1,h2⟩:=(hiff hli b2).1 hne;rw[b3] at h2;obtain⟨f,hf,hx⟩:=List.any_eq_true.1 h2;obtain⟨j,hj,rfl⟩:=List.getElem_of_mem hf;have hji:j<i:=by simp at hj;omega
   have hjk:j<k.length:=by omega
   refine⟨j,by simpa using hji,?_⟩;rw[decide_eq_true_iff,hiff hli (h _ (yb hjk))];refine⟨x,h1,?_⟩;rw[ym hjk];simpa using hx
 · rintro⟨j,hj,h2⟩;have hji:j<i:=by simpa using hj
   have hjk:j<k.length:=by omega
   rw[decide_eq_true_iff,hiff hli (h _ (yb hjk))] at h2;obtain⟨x,h1,h3⟩:=h2;refine(hiff hli b2).2 ⟨x,h1,?_⟩;rw[b3,List.any_eq_true];refine⟨za k j,?_,h3⟩;rw[ym hjk];exact List.mem_take_iff_getElem.2 ⟨j,by omega,rfl⟩
theorem ybp {k:Kno} (h:∀f∈k,zq f.1) {i:Nat} (hi:i<k.length):
 (∀n,n<4→(∀j,j<n→brk k i (jj k i) j=false)→brk k i (jj k i) n=true→zbl k i=zc4 n)∧
 ((∀j,j<4→brk k i (jj k i) j=false)→zbl k i=0):=by
 have h2:=ybo h hi;have e0:brk k i (jj k i) 0=decide ((za k i).1=[]∨(za k i).2=[]):=rfl;have e1:brk k i (jj k i) 1= !za9 (za k i).2:=rfl;have e2:brk k i (jj k i) 2= !zbz (za k i).1 (jj k i):=rfl;have e3:brk k i (jj k i) 3=decide (0<i∧yk (za k (i - 1)).2 (za k i).2≠ -1):=rfl;rw[h2] at e2;constructor
 · intro n hn hj ht;unfold zbl;rcases n with _ | _ | _ | _ | n
   · rw[e0,decide_eq_true_iff] at ht;rw[if_pos ht];rfl
   · have a0:=hj 0 (by omega);rw[e0,decide_eq_false_iff_not] at a0;rw[show brk k i (jj k i) (0+1)=_ from e1] at ht;rw[if_neg a0,if_pos (by simpa using ht)];rfl
   · have a0:=hj 0 (by omega);have a1:=hj 1 (by omega);rw[e0,decide_eq_false_iff_not] at a0;rw[e1] at a1;rw[show brk k i (jj k i) (0+1+1)=_ from e2] at ht;rw[if_neg a0,if_neg (by simp at a1;simp[a1]),if_pos ht];rfl
   · have a0:=hj 0 (by omega);have a1:=hj 1 (by omega);have a2:=hj 2 (by omega);rw[e0,decide_eq_false_iff_not] at a0;rw[e1] at a1;rw[e2] at a2;rw[show brk k i (jj k i) (0+1+1+1)=_ from e3,decide_eq_true_iff] at ht;rw[if_neg a0,if_neg (by simp at a1;simp[a1]),if_neg (by rw[a2];simp),if_pos ht];rfl
   · omega
 · intro hj;have a0:=hj 0 (by omega);have a1:=hj 1 (by omega);have a2:=hj 2 (by omega);have a3:=hj 3 (by omega);rw[e0,decide_eq_false_iff_not] at a0;rw[e1] at a1;rw[e2] at a2;rw[e3,decide_eq_false_iff_not] at a3;unfold zbl;rw[if_neg a0,if_neg (by simp at a1;simp[a1]),if_neg (by rw[a2];simp),if_neg a3]
def zyd (n:Nat):FuncId:=match n with | 0=>174 | 1=>175 | 2=>177 | _=>179
def zje (f:FuncId):Value:=.func (.func f) #[] #[]
def zps:Value:=.agg #[zje 174,zje 175,zje 177,zje 179]
attribute [local go_sem] vq
theorem ybq (w:World):Calls Tryz.prog 130 #[] w fun x w'=>x=.returned zps∧Below w.heap.size w w':=by
 go_enter Tryz.func130,Tryz.ntmps130;go_wp2;refine bodyPost_ret (v:=zps) (by simp[results,Tryz.results130,go_sem];rfl) rfl ?_;exact⟨rfl,(Below.refl _ _).alloc (Nat.le_refl _) _⟩
end
section
open Go.RowKit
theorem ybr (a b:Option Addr) (n cap i bn bc:Nat) (k:Kno) (B:List Iv) (w:World) (hE:Frags w a n cap k) (hi:i<n):
 Calls Tryz.prog 174 #[.slice a n cap,.int .i64 i,.slice b bn bc] w fun x w'=>x=.returned (.bool (brk k i B 0))∧Below w.heap.size w w':=by
 have hm:n≤9223372036854775807:=Nat.le_trans hE.room hE.most;obtain⟨bb,oo,rfl⟩:=hE.some (by omega);obtain⟨x,m,c,y,m',c',hq⟩:=hE.fix hi;have HIl:=hid (hq w (Below.refl _ _)).2.1.len;have HVl:=hid (hq w (Below.refl _ _)).2.2.2.len;have h0:(0:Int)≤i:=by omega
 have h04:(i:Int)<(n:Int):=by omega
 have q1:=(hq w (Below.refl _ _)).1;have q2:=(hq w (Below.refl _ _)).2.2.1;have Hb0:=hid (show brk k i B 0=decide ((za k i).1=[]∨(za k i).2=[]) from rfl);clear hE hq;by_cases hm0:m=0
 · have Hr:=hid (show brk k i B 0=true from by
    rw[Hb0.out,decide_eq_true_iff];exact .inl (List.length_eq_zero_iff.1 (HIl.out.trans hm0)))
   have hz:((m:Int) == 0)=true:=by rw[hm0];rfl
   clear hm0 Hb0;go_enter Tryz.func174,Tryz.ntmps174;go_wp2;go_ret;exact⟨by rw[Hr.out];try rfl,Below.refl _ _⟩
 · have hz:((m:Int) == 0)=false:=by rw[beq_eq_false_iff_ne];omega
   by_cases hm1:m'=0
   · have Hr:=hid (show brk k i B 0=true from by
      rw[Hb0.out,decide_eq_true_iff];exact .inr (List.length_eq_zero_iff.1 (HVl.out.trans hm1)))
     have hz2:((m':Int) == 0)=true:=by rw[hm1];rfl
     clear hm0 hm1 Hb0;go_enter Tryz.func174,Tryz.ntmps174;go_wp2;go_ret;exact⟨by rw[Hr.out];try rfl,Below.refl _ _⟩
   · have Hr:=hid (show brk k i B 0=false from by
      rw[Hb0.out,decide_eq_false_iff_not];rintro(h | h)
      · exact hm0 (by rw[←HIl.out,h];rfl)
      · exact hm1 (by rw[←HVl.out,h];rfl))
     have hz2:((m':Int) == 0)=false:=by rw[beq_eq_false_iff_ne];omega
     clear hm0 hm1 Hb0;go_enter Tryz.func174,Tryz.ntmps174;go_wp2;go_ret;exact⟨by rw[Hr.out];try rfl,Below.refl _ _⟩
theorem ybs (a b:Option Addr) (n cap i bn bc:Nat) (k:Kno) (B:List Iv) (w:World) (hE:Frags w a n cap k) (hi:i<n) (hD:Door w) (hs:∀f∈k,∀e∈f.2,e.2.2.length≤1000000):
 Calls Tryz.prog 175 #[.slice a n cap,.int .i64 i,.slice b bn bc] w fun x w'=>x=.returned (.bool (brk k i B 1))∧Below w.heap.size w w':=by
 have hm:n≤9223372036854775807:=Nat.le_trans hE.room hE.most;have hik:i<k.length:=by rw[hE.len];exact hi
 obtain⟨bb,oo,rfl⟩:=hE.some (by omega);obtain⟨x,m,c,y,m',c',hq⟩:=hE.fix hi;have h0:(0:Int)≤i:=by omega
 have h04:(i:Int)<(n:Int):=by omega
 have q1:=(hq w (Below.refl _ _)).1;have q2:=(hq w (Below.refl _ _)).2.2.1;have hC:=hid (ybm y m' c' (za k i).2 w (hq w (Below.refl _ _)).2.2.2 hD (hs _ (yb hik)));have Hr:=hid (show brk k i B 1= !za9 (za k i).2 from rfl);clear hE hq hs;generalize za9 (za k i).2=z at*;go_enter Tryz.func175,Tryz.ntmps175;go_wp2_with fail;refine hC.out.mono ?_;rintro e w1 ⟨rfl,hb1⟩;have Hb1:=hid hb1;clear hb1;go_wp2;go_ret;exact⟨by rw[Hr.out];try rfl,Hb1.out⟩
theorem ybt (a b:Option Addr) (n cap i bn bc:Nat) (k:Kno) (B:List Iv) (w:World) (hE:Frags w a n cap k) (hi:i<n) (hB:Ivs w b bn bc B) (gB:Good B) (hG:∀f∈k,Good f.1):
 Calls Tryz.prog 177 #[.slice a n cap,.int .i64 i,.slice b bn bc] w fun x w'=>x=.returned (.bool (brk k i B 2))∧Below w.heap.size w w':=by
 have hm:n≤9223372036854775807:=Nat.le_trans hE.room hE.most;have hik:i<k.length:=by rw[hE.len];exact hi
 obtain⟨bb,oo,rfl⟩:=hE.some (by omega);obtain⟨x,m,c,y,m',c',hq⟩:=hE.fix hi;have h0:(0:Int)≤i:=by omega
 have h04:(i:Int)<(n:Int):=by omega
 have q1:=(hq w (Below.refl _ _)).1;have q2:=(hq w (Below.refl _ _)).2.2.1;have hC:=hid (ybg x b m c bn bc (za k i).1 B w (hq w (Below.refl _ _)).2.1 hB (hG _ (yb hik)) gB);have Hr:=hid (show brk k i B 2= !zbz (za k i).1 B from rfl);clear hE hq hB gB hG;generalize zbz (za k i).1 B=z at*;go_enter Tryz.func177,Tryz.ntmps177;go_wp2_with fail;refine hC.out.mono ?_;rintro e w1 ⟨rfl,hb1⟩;have Hb1:=hid hb1;clear hb1;go_wp2;go_ret;exact⟨by rw[Hr.out];try rfl,Hb1.out⟩
set_option maxRecDepth 100000 in
theorem ybu (a b:Option Addr) (n cap i bn bc:Nat) (k:Kno) (B:List Iv) (w:World) (hE:Frags w a n cap k) (hi:i<n) (hv:∀f∈k,VecFits f.2):
 Calls Tryz.prog 179 #[.slice a n cap,.int .i64 i,.slice b bn bc] w fun x w'=>x=.returned (.bool (brk k i B 3))∧Below w.heap.size w w':=by
 have hm:n≤9223372036854775807:=Nat.le_trans hE.room hE.most;have hik:i<k.length:=by rw[hE.len];exact hi
 obtain⟨bb,oo,rfl⟩:=hE.some (by omega);obtain⟨x,m,c,y,m',c',hq⟩:=hE.fix hi;have h0:(0:Int)≤i:=by omega
 have h04:(i:Int)<(n:Int):=by omega
 have Hq:=hid hq;have Hwr:=hid (show brk k i B 3=decide (0<i∧yk (za k (i - 1)).2 (za k i).2≠ -1) from rfl);by_cases hd0:0<i
 · have hdn:i - 1<n:=by omega
   have hdk:i - 1<k.length:=by rw[hE.len];exact hdn
   obtain⟨x1,m1,c1,y1,m1',c1',hq2⟩:=hE.fix hdn;have Hq1:=hid (fun w' (h:Below w.heap.size w w')=>(hq w' h).2.2.1);have Hq2:=hid (fun w' (h:Below w.heap.size w w')=>(hq2 w' h).2.2.1);have hC:=hid (fun w' (h:Below w.heap.size w w')=>zld y1 y m1' c1' m' c' (za k (i - 1)).2 (za k i).2 w' (hq2 w' h).2.2.2 (hq w' h).2.2.2 (hv _ (yb hdk)) (hv _ (yb hik)));have hcr:=zet (za k (i - 1)).2 (za k i).2;have hg:decide (0<(i:Int))=true:=by rw[decide_eq_true_iff];omega
   have hsub:IntKind.i64.wrap ((i:Int) - 1)=((i - 1:Nat):Int):=by rw[IntKind.wrap_i64];omega
   have h01:(0:Int)≤((i - 1:Nat):Int):=by omega
   have h03:((i - 1:Nat):Int)<(n:Int):=by omega
   clear hq hq2 hE hv;generalize yk (za k (i - 1)).2 (za k i).2=z at*;generalize i - 1=d1 at*;obtain⟨bz,hbz⟩:∃bz:Bool,bz=decide (0≤z):=⟨_,rfl⟩;have Hbz:=hid hbz;clear hbz;go_enter Tryz.func179,Tryz.ntmps179;go_wp2_with fail;go_cut [6] (fun t wc=>t=.bool bz∧Hid (Below w.heap.size w wc))
   case first=>
    refine qi (by kernel_rfl) (by kernel_rfl) ?_
    repeat (go_big_quiet_step ((intro hw;first
     | rfl
     | (have q0:=Hq1.out _ hw
        have q3:=Hq2.out _ hw
        first
        | (go_at_call 149;exact kp hw (hC.out _ hw))
        | (go_simp
           first | rfl | exact⟨rfl,hw⟩ | (trace_state;fail))))))
    refine wpQuiet_nil ?_;intro w3 hb3;go_wp2;go_meet
    exact⟨by rw[Hbz.out];try rfl,hb3⟩
   case rest=>
    obtain⟨rfl,hb2⟩:=hcut;have Hb2:=hid hb2.out
    have Hr:=hid (show brk k i B 3=bz from by
     rw[Hwr.out,Hbz.out];rw[Bool.eq_iff_iff,decide_eq_true_iff,decide_eq_true_iff];rcases hcr with h | h | h <;> rw[h] <;> simp[hd0])
    clear hb2 hcr Hwr Hbz;go_wp2;go_ret;exact⟨by rw[Hr.out];try rfl,Hb2.out⟩
 · have hg:decide (0<(i:Int))=false:=by rw[decide_eq_false_iff_not];omega
   have Hr:=hid (show brk k i B 3=false from by rw[Hwr.out,decide_eq_false_iff_not];exact fun h=>hd0 h.1);have hgn:decide (0<i)=false:=by rw[decide_eq_false_iff_not];exact hd0
   clear hd0 hE hv hq Hq Hwr;go_enter Tryz.func179,Tryz.ntmps179;go_wp2;go_quiet (fail);go_wp2;go_ret;exact⟨by rw[Hr.out];try rfl,by first | exact Below.refl _ _ | exact ye (Below.refl _ _) _⟩
theorem ybv (q:Nat) (a b:Option Addr) (n cap i bn bc:Nat) (k:Kno) (B:List Iv) (w:World) (hE:Frags w a n cap k) (hi:i<n) (hB:Ivs w b bn bc B) (gB:Good B) (hG:∀f∈k,Good f.1) (hD:Door w)
 (hs:∀f∈k,∀e∈f.2,e.2.2.length≤1000000) (hv:∀f∈k,VecFits f.2):
 Calls Tryz.prog (zyd q) #[.slice a n cap,.int .i64 i,.slice b bn bc] w fun x w'=>x=.returned (.bool (brk k i B q))∧Below w.heap.size w w':=by
 match q with
 | 0=>exact ybr a b n cap i bn bc k B w hE hi
 | 1=>exact ybs a b n cap i bn bc k B w hE hi hD hs
 | 2=>exact ybt a b n cap i bn bc k B w hE hi hB gB hG
 | q+3=>exact ybu a b n cap i bn bc k B w hE hi hv
end
end Go.Proofs.YtdnjfnofjaoajaaGreatDoor
