/- Part 61. -/
import Derived.Test.YtmfhggnlainmiaaGreatDoorPk58
import Derived.Test.YtmfhggnlainmiaaGreatDoorPk27
set_option linter.unusedVariables false
set_option maxHeartbeats 16000000
namespace Go.Proofs.YtmfhggnlainmiaaGreatDoor
open Lib (hid)
section
open Go.RowKit
theorem z30 {P:Program} {f:FuncId} {args:Array Value} {w w':World} {v:Value} (hw:Below w.heap.size w w') (h:Calls P f args w' fun e w''=>e=.returned v∧w'=w''):
 Calls P f args w' fun e w''=>e=.returned v∧Below w.heap.size w w'':=h.mono fun e w'' ⟨he,hq⟩=>⟨he,hq ▸ hw⟩
end
section
theorem z31:∀{a b:List Nat},Asc a→Asc b→(∀x∈a,∀y∈b,x<y)→Asc (a++b)
 | [],b,_,hb,_=>hb
 | x :: a,b,ha,hb,h=>zgf (fun y hy=>by
     rcases List.mem_append.1 hy with hy | hy
     · exact ha.lower y hy
     · exact h x (List.mem_cons_self ..) y hy) (z31 ha.tail hb fun z hz y hy=>h z (List.mem_cons_of_mem _ hz) y hy)
theorem zqm {l:List Nat} (h:Asc l) {x k:Nat} (hk:k≤l.length) (h1:0<k→nth l (k - 1)<x) (h2:∀t,k≤t→t<l.length→x<nth l t):
 Asc (l.take k++x :: l.drop k)∧∀y,y∈l.take k++x :: l.drop k↔y∈l∨y=x:=by
 have e:l=l.take k++l.drop k:=(List.take_append_drop k l).symm;have h':=h;rw[e] at h';obtain⟨a1,a2,a3⟩:=zt4 h'
 have lo:∀y∈l.take k,y<x:=by
  intro y hy;obtain⟨i,hi,rfl⟩:=List.getElem_of_mem hy;simp at hi;have hi2:i<l.length:=by omega
  have:(l.take k)[i]'(by simp;omega)=nth l i:=by simp[nth,hi2]
  rw[this];have h3:=h1 (by omega);by_cases e:i=k - 1
  · subst e;exact h3
  · have:=zev h (i:=i) (j:=k - 1) (by omega) (by omega);omega
 have hi:∀y∈l.drop k,x<y:=by
  intro y hy;obtain⟨i,hi,rfl⟩:=List.getElem_of_mem hy;simp at hi;have:(l.drop k)[i]'(by simp;omega)=nth l (k+i):=by simp[nth,show k+i<l.length by omega]
  rw[this];exact h2 _ (by omega) (by omega)
 refine⟨z31 a1 (zgf hi a2) ?_,?_⟩
 · intro y hy z hz;rcases List.mem_cons.1 hz with rfl | hz
   · exact lo y hy
   · exact a3 y hy z hz
 · intro y;rw[List.mem_append,List.mem_cons];constructor
   · rintro(h | rfl | h)
     · exact .inl (List.mem_of_mem_take h)
     · exact .inr rfl
     · exact .inl (List.mem_of_mem_drop h)
   · rintro(h | rfl)
     · rw[e] at h;rcases List.mem_append.1 h with h | h
       · exact .inl h
       · exact .inr (.inr h)
     · exact .inr (.inl rfl)
theorem yhz (f:Nat→Bool) {L:List Nat} {k:Nat} (h:k<L.length):
 vk ((qz f L).take (k+1)) []=if f (nth L k)=true then zd0 (vk ((qz f L).take k) []) (zct L k) else vk ((qz f L).take k) []:=by
 have hk:k<(qz f L).length:=by rw[zcj];exact h
 have e:=zt8 f h;rw[List.getElem?_eq_getElem hk] at e;have e':(qz f L)[k]=(zct L k,f (nth L k)):=by simpa using e
 rw[List.take_succ_eq_append_getElem hk,zt7,e',vk]
 rfl
theorem z32 {L:List Nat} {k:Nat} (h:k<L.length) (hl:∀x∈L,x<18446744073709551616):(zct L k).1<18446744073709551616∧(zct L k).2<18446744073709551616:=by
 have h1:=hl _ (zce h);unfold zct;split
 · rename_i h2;have:=hl _ (zce h2);exact⟨h1,by simp only;omega⟩
 · exact⟨h1,by simp only;omega⟩
theorem yh0 (f:Nat→Bool) {L:List Nat} (hl:∀x∈L,x<18446744073709551616) (k:Nat):∀p∈(qz f L).take k,p.1.1<18446744073709551616∧p.1.2<18446744073709551616:=by
 intro p hp;obtain⟨i,hi,rfl⟩:=List.getElem_of_mem (List.mem_of_mem_take hp);rw[zcj] at hi;have e:=zt8 f hi;rw[List.getElem?_eq_getElem (by rw[zcj];exact hi)] at e;have e':(qz f L)[i]'(by rw[zcj];exact hi)=(zct L i,f (nth L i)):=by simpa using e
 rw[e'];exact z32 hi hl
end
section
open Go.RowKit
theorem zib (w:World) (sz:Nat):Rd w sz none 0 []:=⟨by simp,fun h=>by omega⟩
theorem zfk {w:World} {base size n c g:Nat} {e:TypeId} {xs:List Value} (h:w.ownsRow base e size (.slice (some ⟨g,0,none⟩) n c) n xs) (k:Nat) (hk:k≤n):w.ownsRow base e size (.slice (some ⟨g,0,none⟩) k c) k (xs.take (k*size)):=by
 have h1:=h.1;rcases h.2 with ⟨h',_⟩ | ⟨g',cap',cur,h',hb,hg,hnc,hcm,hcs,htake⟩
 · simp at h'
 · simp only[Value.slice.injEq,Option.some.injEq,Addr.mk.injEq,and_true,true_and] at h';obtain⟨rfl,rfl⟩:=h';have hks:k*size≤n*size:=Nat.mul_le_mul_right _ hk;refine⟨by rw[List.length_take,h1];omega,.inr ⟨g,c,cur,rfl,hb,hg,by omega,hcm,hcs,?_⟩⟩;rw[←htake,List.take_take];congr 1;omega
theorem zu1 (l:List Nat) (k:Nat):(zi l).take k=zi (l.take k):=by simp[zi,List.map_take]
theorem yh1 (l:List Nat) (k:Nat):(zi l).drop k=zi (l.drop k):=by simp[zi,List.map_drop]
end
section
theorem z33 {l L:List Nat} (h:Asc L) (hm:∀y,y∈L↔y∈l):L=zek l:=zjp h (zh7 l) fun y=>(hm y).trans (zf4 l y).symm
end
section
open Go.RowKit
theorem yh2 {r:Nat} {L:List Iv} {f:Ent} (h:zo L) (hf:ofE r L=some f):f.2.2.length≤1+L.length:=by
 unfold ofE at hf;split at hf
 · cases hf
 · cases hf;have:=z2t (a:=[(0,za8 L)]) (b:=L) (zhd (by omega) (zua h)) h;simpa using this
theorem z34 (a:Option Addr) (n cap i:Nat) (l:List Nat) (w:World) (hU:U64s w a n cap l) (hi:i<n) (hn:n≤1000000) (hp:i+1<n→0<nth l (i+1)):
 Calls Tryz.prog 216 #[.slice a n cap,.int .i64 i] w fun e w'=>e=.returned (ivV (zct l i))∧Below w.heap.size w w':=by
 obtain⟨bb,oo,rfl,hcell⟩:=hU.cells (by omega);have hc1:=hcell i hi;unfold zct;rw[hU.len];have hl1:=zf hc1;simp only at hl1;by_cases h:i+1<n
 · have hc2:=hcell (i+1) h;have hx:=hU.lt (nth l (i+1)) (by simp[nth,hU.len,h]);have hp':=hp h;rw[if_pos h];have hw:IntKind.u64.wrap (((nth l (i+1):Nat):Int) - 1)=((nth l (i+1) - 1:Nat):Int):=by rw[IntKind.wrap_u64];omega
   clear hp hcell hU;generalize nth l i=x at*;generalize nth l (i+1)=y at*;have hl2:=zf hc2;simp only at hl2;clear hx hp';generalize y - 1=z at*;have hd:decide ((i:Int)+1<(n:Int))=true:=by rw[decide_eq_true_iff];omega
   have h1:(i:Int)<(n:Int):=by omega
   have h2:(i:Int)+1<(n:Int):=by omega
   have h3:((i:Int)+1).toNat=i+1:=by omega
   have hs:IntKind.i64.wrap ((i:Int)+1)=(i:Int)+1:=by rw[IntKind.wrap_i64];omega
   go_enter Tryz.func216,Tryz.ntmps216;go_wp2;go_region
   all_goals
    go_wp2;refine bodyPost_ret (v:=ivV (x,z)) (by simp[results,Tryz.results216,go_sem]) rfl ⟨rfl,?_⟩;exact((Below.refl _ _).alloc (Nat.le_refl _) _).drew
 · rw[if_neg h];clear hp hcell hU;generalize nth l i=x at*;have hd:decide ((i:Int)+1<(n:Int))=false:=by rw[decide_eq_false_iff_not];omega
   have h1:(i:Int)<(n:Int):=by omega
   have hs:IntKind.i64.wrap ((i:Int)+1)=(i:Int)+1:=by rw[IntKind.wrap_i64];omega
   go_enter Tryz.func216,Tryz.ntmps216;go_wp2;go_region_with (go_at_call 257;refine(zo7 _).mono ?_;rintro e w1 ⟨rfl,rfl⟩)
   all_goals
    go_wp2;refine bodyPost_ret (v:=ivV (x,18446744073709551615)) (by simp[results,Tryz.results216,go_sem]) rfl ⟨rfl,?_⟩;exact((Below.refl _ _).alloc (Nat.le_refl _) _).drew
theorem yh3 {α:Type} (l:List α) (d:α) (k:Nat) (h:k<l.length):l.take (k+1)=l.take k++[l.getD k d]:=by
 rw[List.take_succ_eq_append_getElem h];simp[h]
theorem yh4 (l:List Iv) (s:Iv):yt (l++[s])=yt l++bnd s:=by simp[yt]
theorem yh5 {s:Iv} (h:s.1<18446744073709551616∧s.2<18446744073709551616):∀x∈bnd s,x<18446744073709551616:=by
 intro x hx;unfold bnd at hx;split at hx <;> simp at hx <;> omega
theorem z35 {α:Type} (f:α→List Nat) (l:List α) (k:Nat):((l.take k).flatMap f).length≤(l.flatMap f).length:=by
 have:l=l.take k++l.drop k:=(List.take_append_drop k l).symm;rw[show l.flatMap f=(l.take k++l.drop k).flatMap f by rw[←this],List.flatMap_append,List.length_append];omega
theorem Rls.all_lt {w:World} {a:Option Addr} {n cap:Nat} {ls:List (List Iv)} (h:Rls w a n cap ls):∀x∈jk ls,x<18446744073709551616:=by
 intro x hx;simp only[jk,List.mem_cons,List.mem_flatMap] at hx;rcases hx with rfl | ⟨l,hl,hx⟩
 · omega
 · obtain⟨i,hi,rfl⟩:=List.getElem_of_mem hl;rw[h.len] at hi;obtain⟨b,o,_,hc⟩:=h.cells (by omega);obtain⟨A,c,_,hI⟩:=hc i hi;have e:ls.getD i []=ls[i]:=by simp[show i<ls.length by rw[h.len];exact hi]
   rw[e] at hI;obtain⟨s,hs,hx⟩:=List.mem_flatMap.1 hx;exact yh5 (hI.lt s hs) x hx
theorem yh6 (l:List Nat) (j:Nat) (h:j<l.length) (y:Nat):y∈l.take (j+1)↔y∈l.take j∨y=nth l j:=by
 rw[List.take_succ_eq_append_getElem h,List.mem_append,List.mem_singleton];simp[nth,h]
theorem z36 {w:World} {base g n c:Nat} {T:TypeId} {l:List Nat} (h:w.ownsRow base T 1 (.slice (some ⟨g,0,none⟩) n c) n (zi l)) (k:Nat) (hk:k≤n):Rd w 1 (some ⟨g,k,none⟩) (n - k) (zi (l.drop k)):=by
 have hlen:l.length=n:=by have:=h.1;rw[zfu] at this;omega
 refine⟨by rw[zfu,List.length_drop];omega,fun hn=>⟨g,k,rfl,fun j u hu=>?_⟩⟩;rw[←yh1,List.getElem?_drop] at hu;have hc:=h.cells (g:=g) rfl (k+j) u hu;rwa [qg,Nat.zero_add] at hc
theorem zu2 {w:World} {base g sz n:Nat} {e:TypeId} {C:Array Value} {xs:List Value} (h:w.heap[g]?=some (.cells C e (0,0))) (hb:base≤g) (hC:C=xs.toArray) (hx:xs.length=n*sz) (hn:n≤maxLen):w.ownsRow base e sz (.slice (some ⟨g,0,none⟩) n n) n xs:=by
 subst hC;refine⟨hx,.inr ⟨g,n,xs.toArray,rfl,hb,h,Nat.le_refl _,hn,by simpa using hx,?_⟩⟩;rw[←hx];simp
set_option maxRecDepth 20000 in
theorem z37 (a:Option Addr) (n cap:Nat) (ls:List (List Iv)) (w:World) (hR:Rls w a n cap ls) (hn:n≤1000) (hm:(jk ls).length≤100000):
 Calls Tryz.prog 263 #[.slice a n cap] w fun e w'=>
  (∃v L,e=.returned v∧w'.ownsRow w.heap.size 64 1 v L.length (zi L)∧Asc L∧∀y,y∈L↔y∈jk ls)∧Below w.heap.size w w':=by
 have HR:=hid hR;have Hl:=hid hR.len;have Hm:=hid hm;have ho0:=World.ownsRow_lit (e:=64) (size:=1) (base:=w.heap.size) w (zi [0]).toArray 1 (Nat.le_refl _) (by unfold maxLen;omega) rfl;have Ho0:=hid ho0;have hb0:Below w.heap.size w (w.alloc (.cells (zi [0]).toArray 64)):=(Below.refl _ _).alloc (Nat.le_refl _) _;clear hR hm ho0;go_enter Tryz.func263,Tryz.ntmps263;go_wp2;go_loopw [3,4,5] (fun v i _ wr=>∃k:Nat,k≤n∧i=.int .i64 k∧Below w.heap.size w wr∧Hid (∃m,m=(0 :: (ls.take k).flatMap yt).length∧wr.ownsRow w.heap.size 64 1 v m (zi (0 :: (ls.take k).flatMap yt)))) (fun _ i _ _=>n - (intOf i).toNat)
 case atStart=>exact⟨0,by omega,rfl,hb0,1,rfl,Ho0.out⟩
 case round=>
  obtain⟨k,hk,rfl,hb,ho⟩:=hrel;have Hb:=hid hb;clear hb;by_cases hkn:k<n
  · go_wp2;obtain⟨wo,hwo⟩:∃wo:World,wo=wr:=⟨_,rfl⟩;go_loopw [3,5] (fun v j wi=>∃m:Nat,m≤(ls.getD k []).length∧j=.int .i64 m∧Below w.heap.size w wi∧Hid (∃q,q=(0 :: (ls.take k).flatMap yt++yt ((ls.getD k []).take m)).length∧wi.ownsRow w.heap.size 64 1 v q (zi (0 :: (ls.take k).flatMap yt++yt ((ls.getD k []).take m))))) (fun _ j _=>(ls.getD k []).length - (intOf j).toNat)
    case atStart=>exact⟨0,by omega,rfl,Hb.out,by
     obtain⟨m,h1,h2⟩:=ho.out;simp only[List.take_zero];exact⟨m,by rw[h1];simp[yt],by simpa [yt] using h2⟩⟩
    case round=>
     obtain⟨m,hm',rfl,hb,hoi⟩:=hrel;have Hbi:=hid hb;clear hb;obtain⟨bb,oo,rfl,hcell⟩:=HR.out.cells (by omega);obtain⟨A,c,hc0,hI⟩:=hcell k hkn;clear hcell;have hmx:(ls.getD k []).length≤9223372036854775807:=Nat.le_trans hI.room hI.most;have HC0:=hid (fun w' (h:Below w.heap.size w w')=>(h.cell (p:=⟨bb,oo+k,none⟩) (zf hc0)).trans hc0);have HI:=hid hI;have hkl:k<ls.length:=by rw[Hl.out];exact hkn
     have Htk:=hid (yh3 ls [] k hkl)
     have Hsum:=hid (show (0 :: (ls.take k).flatMap yt).length+(yt (ls.getD k [])).length≤100000 from by
      have h1:=z35 yt ls (k+1);rw[Htk.out,List.flatMap_append,List.length_append] at h1;have h2:=Hm.out;simp[jk] at h2;simp at h1 ⊢;omega)
     clear hc0 hI hkl;generalize ls.getD k []=l at*;by_cases hml:m<l.length
     · obtain⟨ib,io,rfl,hcell⟩:=HI.out.cells (by omega);obtain⟨i1,i2⟩:=hcell m hml;have HI1:=hid (fun w' (h:Below w.heap.size w w')=>(h.cell (p:=⟨ib,io+m*2,none⟩) (zf i1)).trans i1);have HI2:=hid (fun w' (h:Below w.heap.size w w')=>(h.cell (p:=⟨ib,io+m*2+1,none⟩) (zf i2)).trans i2);have Hlc:=hid HI.out.room;have Hslt:=hid (HI.out.lt (zb l m) (zbo hml));have Htm:=hid (show l.take (m+1)=l.take m++[zb l m] from by rw[List.take_succ_eq_append_getElem hml,jg hml]);have Hbl:=hid (show (yt (l.take m)).length+2≤(yt l).length+2 from by have:=z35 bnd l m;unfold yt;omega);clear hcell i1 i2;generalize zb l m=s at*;obtain⟨x,y⟩:=s;simp only at HI1 HI2 Hslt;obtain⟨q,hq,hov⟩:=hoi.out;generalize hX:0 :: (ls.take k).flatMap yt++yt (l.take m)=X at*;have HX:=hid hX;clear hX
       have hq2:q≤100000:=by
        have h1:=Hsum.out;have h2:=Hbl.out;rw[hq,←HX.out,List.length_append];omega
       have Hq:=hid hq;clear hq;obtain⟨v1,w1,hr1,ho1,hg1⟩:=zhf w.heap.size u3 q X (hov.alloc (.cells #[.int .u64 x] 64)) (some ⟨wr.heap.size,0,none⟩) 1 1 [x] (yq (zh _ _ _ rfl) rfl rfl) (by omega) (by have:=Hbi.out.size;simp;omega);have Hov:=hid hov;clear hov;have Ho1:=hid ho1;clear ho1;have Hb1:=hid (Hbi.out.alloc Hbi.out.size (.cells #[.int .u64 x] 64) |>.grown hg1 (by have:=Hbi.out.size;simp;omega) (fun k hk=>(Hov.out.lt k hk).1));clear hg1;have c0:=HC0.out _ Hbi.out;have c1:=HI1.out _ Hbi.out;go_wp2_with (at_builtin;refine qf _ _ 62 rfl rfl _ _ rfl rfl _ _ hr1 ?_);clear hr1 c0 c1;have hmi:(m:Int)<(l.length:Int):=by omega
       have hki:(k:Int)<(n:Int):=by omega
       have hm0:(0:Int)≤m:=by omega
       have hk0:(0:Int)≤k:=by omega
       have HXm:=hid (show 0 :: (ls.take k).flatMap yt++yt (l.take (m+1))=X++bnd (x,y) from by rw[Htm.out,yh4,←HX.out,List.append_assoc]);by_cases hy:y<18446744073709551615
       · have hd:decide ((y:Int)<18446744073709551615)=true:=by rw[decide_eq_true_iff];omega
         have hw:IntKind.u64.wrap ((y:Int)+1)=(y:Int)+1:=by rw[IntKind.wrap_u64];omega
         have Hbd:=hid (show bnd (x,y)=[x,y+1] from by simp[bnd,hy]);clear hy;refine jl (by kernel_rfl) (by kernel_rfl) ?_
         repeat (go_big_quiet_step ((intro hw;first
          | rfl
          | (go_at_call 257;exact z30 hw (zo7 _))
          | (have q0:=HC0.out _ (Hb1.out.trans (hw.mono Hb1.out.size))
             have q2:=HI2.out _ (Hb1.out.trans (hw.mono Hb1.out.size));go_simp;first | rfl | exact⟨rfl,hw⟩ | (trace_state;fail)))))
         refine wpQuiet_nil ?_;intro w3 hb3;have Hb3:=hid (Hb1.out.trans (hb3.mono Hb1.out.size));have Ho3:=hid (zm Ho1.out hb3);clear hb3;have c0:=HC0.out _ Hb3.out;have c2:=HI2.out _ Hb3.out;obtain⟨v2,w4,hr2,ho2,hg2⟩:=zhf w.heap.size v1 (q+1) (X++[x]) (Ho3.out.alloc (.cells #[.int .u64 ((y:Int)+1)] 64)) (some ⟨w3.heap.size,0,none⟩) 1 1 [y+1] (yq (zh _ _ _ rfl) rfl rfl) (by omega) (by have:=Hb3.out.size;simp;omega);have Ho2:=hid ho2;clear ho2;have Hb2:=hid (Hb3.out.alloc Hb3.out.size (.cells #[.int .u64 ((y:Int)+1)] 64) |>.grown hg2 (by have:=Hb3.out.size;simp;omega) (fun k hk=>(Ho3.out.lt k hk).1));clear hg2;go_wp2_with (at_builtin;refine qf _ _ 62 rfl rfl _ _ rfl rfl _ _ hr2 ?_);clear hr2 c0 c2;go_roundw
         case rel=>exact⟨m+1,by omega,by go_num,Hb2.out,by
          rw[HXm.out,Hbd.out];exact⟨q+1+1,by have:=Hq.out;simp;omega,by simpa using Ho2.out⟩⟩
         case measure=>simp[intOf];omega
       · have hd:decide ((y:Int)<18446744073709551615)=false:=by rw[decide_eq_false_iff_not];omega
         have Hbd:=hid (show bnd (x,y)=[x] from by simp[bnd,hy]);clear hy;refine jl (by kernel_rfl) (by kernel_rfl) ?_
         repeat (go_big_quiet_step ((intro hw;first
          | rfl
          | (go_at_call 257;exact z30 hw (zo7 _))
          | (have q0:=HC0.out _ (Hb1.out.trans (hw.mono Hb1.out.size))
             have q2:=HI2.out _ (Hb1.out.trans (hw.mono Hb1.out.size));go_simp;first | rfl | exact⟨rfl,hw⟩ | (trace_state;fail)))))
         refine wpQuiet_nil ?_;intro w3 hb3;have Hb3:=hid (Hb1.out.trans (hb3.mono Hb1.out.size));have Ho3:=hid (zm Ho1.out hb3);clear hb3;go_wp2;go_roundw
         case rel=>exact⟨m+1,by omega,by go_num,Hb3.out,by
          rw[HXm.out,Hbd.out];exact⟨q+1,by have:=Hq.out;simp;omega,Ho3.out⟩⟩
         case measure=>simp[intOf];omega
     · obtain rfl:m=l.length:=by omega
       have c0:=HC0.out _ Hbi.out;go_wp2;go_roundw
       case rel=>exact⟨k+1,by omega,by go_num,Hbi.out,by
        obtain⟨q,h1,h2⟩:=hoi.out;rw[List.take_length] at h1 h2;rw[Htk.out,List.flatMap_append];have e:0 :: ((ls.take k).flatMap yt++[l].flatMap yt)=0 :: (ls.take k).flatMap yt++yt l:=by simp
        rw[e];exact⟨q,h1,h2⟩⟩
       case measure=>simp[intOf];omega
  · obtain rfl:k=n:=by omega
    obtain⟨N,hN,ho⟩:=ho.out;have hL:0 :: (ls.take k).flatMap yt=jk ls:=by rw[List.take_of_length_le (by rw[Hl.out];exact Nat.le_refl _)];rfl
    rw[hL] at hN ho;clear hL;have hmL:=Hm.out;have hlt:=HR.out.all_lt;generalize hLL:jk ls=L at*;have HLL:=hid hLL;clear hLL;obtain⟨A,C,rfl,hU⟩:=zcx ho hlt;have HU:=hid hU;have HL:=hid hN;have hNb:N≤100000:=by rw[hN];exact hmL
    have Hlt:=hid hlt;clear hU hN ho hlt;have Hbs:=hid Hb.out.size;obtain⟨w2,rfl⟩:∃w2:World,w2=wr:=⟨_,rfl⟩;go_wp2;go_loopw [6,7,8] (fun o i t wi=>∃(j:Nat) (R:List Nat),j≤N∧i=.int .i64 j∧Below w2.heap.size w2 wi∧Hid (wi.ownsRow w2.heap.size 64 1 o R.length (zi R)∧Asc R∧R.length≤j∧∀y,y∈R↔y∈L.take j)) (fun _ i _ _=>N - (intOf i).toNat)
    case atStart=>exact⟨0,[],by omega,rfl,Below.refl _ _,World.ownsRow_nil _ _ _ _,trivial,Nat.le_refl _,by simp⟩
    case round=>
     obtain⟨j,R,hj,rfl,hb,hR⟩:=hrel;have Hbj:=hid hb;clear hb;by_cases hjN:j<N
     · obtain⟨ho,hA,hRj,hRm⟩:=hR.out;have hRlt:∀y∈R,y<18446744073709551616:=fun y hy=>Hlt.out y (List.mem_of_mem_take ((hRm y).1 hy))
       obtain⟨a1,c1,rfl,hU1⟩:=zcx ho hRlt;have HU1:=hid hU1;have Hrl:=hid hRlt;have Ho:=hid ho;have HA:=hid hA;obtain⟨x,hx⟩:∃x,x=nth L j:=⟨_,rfl⟩;have Hx:=hid hx
       have HRm:=hid (show ∀y,y∈L.take (j+1)↔y∈R∨y=x from fun y=>by
        rw[yh6 L j (by rw[HU.out.len];exact hjN),←hRm,←hx])
       have hRmN:R.length≤100001:=by have:=HL.out;omega
       have HRj:=hid hRj;clear hx hR hU1 ho hA hRm hRlt hRj;generalize hm:R.length=m at*;have Hm1:=hid hm;clear hm;have Hbo:=hid Hbj.out.size;obtain⟨w5,rfl⟩:∃w5:World,w5=wr:=⟨_,rfl⟩;obtain⟨bL,oL,rfl,hcL⟩:=HU.out.cells (by omega);have hcl:=hcL j hjN;rw[←Hx.out] at hcl;have HcL:=hid (fun w' (h:Below w2.heap.size w2 w')=>(h.cell (p:=⟨bL,oL+j,none⟩) (zf hcl)).trans hcl);clear hcL hcl;go_wp2;go_loopw [8] (fun t wi=>∃k:Nat,k≤m∧t=.int .i64 k∧Below w5.heap.size w5 wi∧Hid (∀t,k≤t→t<m→x<nth R t)) (fun t _=>(intOf t).toNat)
       case atStart=>exact⟨m,by omega,rfl,Below.refl _ _,fun t h1 h2=>by omega⟩
       case round=>
        obtain⟨k,hk,rfl,hb,ht⟩:=hrel;have Hbk:=hid hb;have Hbk2:=hid (Hbj.out.trans (hb.mono Hbo.out));clear hb;have hjNi:(j:Int)<(N:Int):=by omega
        have hj0:(0:Int)≤j:=by omega
        by_cases hk0:0<k
        · obtain⟨g,rfl,hgb,hgc,hcR⟩:=zrk Ho.out (by omega);have hcr:=hcR (k - 1) (by omega);have HcR:=hid (fun w' (h:Below w5.heap.size w5 w')=>(h.cell (p:=⟨g,k - 1,none⟩) (zf hcr)).trans hcr);clear hcR hcr;obtain⟨z,hz⟩:∃z,z=nth R (k - 1):=⟨_,rfl⟩;rw[←hz] at HcR;have Hz:=hid hz;clear hz;have hg0:decide (0<(k:Int))=true:=by rw[decide_eq_true_iff];omega
          have hsub:IntKind.i64.wrap ((k:Int) - 1)=(k:Int) - 1:=by rw[IntKind.wrap_i64];omega
          have h01:0≤(k:Int) - 1:=by omega
          have h02:((k:Int) - 1).toNat=k - 1:=by omega
          have h03:(k:Int) - 1<(m:Int):=by omega
          by_cases hzx:x<z
          · have hd:decide ((x:Int)<(z:Int))=true:=by rw[decide_eq_true_iff];omega
            have hdn:decide (x<z)=true:=by rw[decide_eq_true_iff];exact hzx
            have Hzx:=hid hzx;clear hzx;go_wp2_with fail;refine jl (by kernel_rfl) (by kernel_rfl) ?_
            repeat (go_big_quiet_step ((intro hw;first
             | rfl
             | (have q0:=HcL.out _ (Hbk2.out.trans (hw.mono Hbk2.out.size))
                have q2:=HcR.out _ (Hbk.out.trans (hw.mono Hbk.out.size));go_simp;first | rfl | exact⟨rfl,hw⟩ | (trace_state;fail)))))
            refine wpQuiet_nil ?_;intro w3 hb3;have Hb3:=hid (Hbk.out.trans (hb3.mono Hbk.out.size));clear hb3;go_wp2;go_roundw
            case rel=>exact⟨k - 1,by omega,by go_num,Hb3.out,fun t h1 h2=>by
             rcases Nat.lt_or_ge t k with h | h
             · rw[show t=k - 1 by omega,←Hz.out];exact Hzx.out
             · exact ht.out t h h2⟩
            case measure=>simp[intOf];omega
          · have hd:decide ((x:Int)<(z:Int))=false:=by rw[decide_eq_false_iff_not];omega
            have Hzx:=hid (Nat.le_of_not_lt hzx);have hdn:decide (x<z)=false:=by rw[decide_eq_false_iff_not];exact hzx
            clear hzx;go_wp2_with fail;refine jl (by kernel_rfl) (by kernel_rfl) ?_
            repeat (go_big_quiet_step ((intro hw;first
             | rfl
             | (have q0:=HcL.out _ (Hbk2.out.trans (hw.mono Hbk2.out.size))
                have q2:=HcR.out _ (Hbk.out.trans (hw.mono Hbk.out.size));go_simp;first | rfl | exact⟨rfl,hw⟩ | (trace_state;fail)))))
            refine wpQuiet_nil ?_;intro w3 hb3;have Hb3:=hid (Hbk.out.trans (hb3.mono Hbk.out.size));have Hc3:=hid (Hbj.out.trans (Hb3.out.mono Hbo.out));clear hb3;have he0:((k:Int) == 0)=false:=by rw[beq_eq_false_iff_ne];omega
            by_cases hzx:z=x
            · obtain rfl:=hzx;have Hzm:=hid (show z∈R from by rw[Hz.out];exact zce (by rw[Hm1.out];omega));go_wp2_with fail;refine jl (by kernel_rfl) (by kernel_rfl) ?_
              repeat (go_big_quiet_step ((intro hw;first
               | rfl
               | (have q0:=HcL.out _ (Hc3.out.trans (hw.mono Hc3.out.size))
                  have q2:=HcR.out _ (Hb3.out.trans (hw.mono Hb3.out.size));go_simp;first | rfl | exact⟨rfl,hw⟩ | (trace_state;fail)))))
              refine wpQuiet_nil ?_;intro w4 hb4;have Hb4:=hid (Hb3.out.trans (hb4.mono Hb3.out.size));have Hc4:=hid (Hbj.out.trans (Hb4.out.mono Hbo.out));clear hb4;go_wp2;go_roundw
              case rel=>exact⟨j+1,R,by omega,by go_num,Hc4.out,by
               rw[Hm1.out];exact⟨zm Ho.out Hb4.out,HA.out,by have:=HRj.out;omega,fun y=>by rw[HRm.out y];exact⟨.inl,fun h=>h.elim id fun h=>by rw[h];exact Hzm.out⟩⟩⟩
              case measure=>simp[intOf];omega
            · have hne:((z:Int) != (x:Int))=true:=by rw[bne_iff_ne];omega
              have Hins:=hid (show 0<k→nth R (k - 1)<x from fun _=>by rw[←Hz.out];have:=Hzx.out;omega);clear hzx;go_wp2_with fail;refine jl (by kernel_rfl) (by kernel_rfl) ?_
              repeat (go_big_quiet_step ((intro hw;first
               | rfl
               | (have q0:=HcL.out _ (Hc3.out.trans (hw.mono Hc3.out.size))
                  have q2:=HcR.out _ (Hb3.out.trans (hw.mono Hb3.out.size));go_simp;first | rfl | exact⟨rfl,hw⟩ | (trace_state;fail)))))
              refine wpQuiet_nil ?_;intro w4 hb4;have Hb4:=hid (Hb3.out.trans (hb4.mono Hb3.out.size));have Hc4:=hid (Hbj.out.trans (Hb4.out.mono Hbo.out));clear hb4;clear h01 h02 h03 hsub hg0 hne he0;have r0:=fun w' (h:Below w4.heap.size w4 w')=>HcL.out w' (Hc4.out.trans (h.mono Hc4.out.size))
              have Ho4:=hid (zm Ho.out Hb4.out)
              have Hrd:=hid (show ∀w',Below w4.heap.size w4 w'→Rd w' 1 (if c1=k then some ⟨g,0,none⟩ else some ⟨g,k,none⟩) (m - k) (zi (R.drop k)) from fun w' h=>by
               have h1:=(z36 Ho4.out k hk).below h;split
               · exact⟨h1.1,fun h0=>by omega⟩
               · exact h1)
              have Htk:=hid (show ∀w',Below w4.heap.size w4 w'→w'.ownsRow w2.heap.size 64 1 (.slice (some ⟨g,0,none⟩) k c1) k (zi (R.take k)) from fun w' h=>by
               have:=zfk (zm Ho4.out h) k hk;rwa [Nat.mul_one,zu1] at this)
              have Hfin:=hid (zqm HA.out (x:=x) (k:=k) (by rw[Hm1.out];exact hk) Hins.out (by rw[Hm1.out];exact ht.out));have Hz4:=hid Hc4.out.size;have hkc:k≤c1:=by omega
              have hgl:g<w4.heap.size:=by
               rcases zk9 Ho4.out with ⟨h,_⟩ | ⟨g',h,_,_,h4⟩
               · cases h
               · cases h;exact h4
              go_wp2_with fail;have q0:=r0 w4 (Below.refl _ _)
              go_region_law (first
               | (refine zcr rfl (.tmp 103) (.tmp 106) rfl rfl w4.heap.size _ 1 [x] rfl (zu2 (by first | exact zh _ _ _ (by simp) | exact jp _ _ _ _ (zh _ _ _ (by simp))) (by simp <;> omega) rfl rfl (by unfold maxLen;omega)) _ (m - k) _ (R.drop k) rfl (Hrd.out _ (by first | exact((Below.refl _ _).alloc (Nat.le_refl _) _).drew | exact((Below.refl _ _).drew).alloc (by simp) _)) (by omega) (by simp <;> omega) ?_
                  intro v1 w1 ho1 hg1;obtain⟨g1,cc1,rfl,-,-⟩:=ho1.form (by omega)
                  have hS1:Below w4.heap.size w4 w1:=by
                   refine Below.grown (by first | exact((Below.refl _ _).alloc (Nat.le_refl _) _).drew | exact((Below.refl _ _).drew).alloc (by simp) _) hg1 ?_ ?_
                   · simp <;> omega
                   · intro j hj;simp[Value.ownBlock,Act.eval] at hj
                     omega)
               | (refine zcr rfl (.tmp 98) (.tmp 107) rfl rfl w2.heap.size _ k _ rfl (Htk.out _ hS1) _ (1+(m - k)) _ ([x]++R.drop k) rfl (Rd.own ho1) (by omega) (by have:=hS1.size;have:=Hz4.out;simp <;> omega) ?_
                  intro v2 w6 ho2 hg2
                  have hS2:Below w2.heap.size w2 w6:=by
                   refine Below.grown ((Hc4.out).trans (hS1.mono Hc4.out.size)) hg2 (by have:=hS1.size;have:=Hz4.out;omega) ?_;intro j hj;exact((Htk.out _ hS1).lt j hj).1))
              all_goals
               go_wp2;go_roundw
               case rel=>exact⟨j+1,_,by omega,by go_num,hS2,by
                have e:(R.take k++x :: R.drop k).length=k+(1+(m - k)):=by simp[Hm1.out];omega
                exact⟨by rw[e];exact ho2,Hfin.out.1,by rw[e];have:=HRj.out;omega,fun y=>(Hfin.out.2 y).trans (HRm.out y).symm⟩⟩
               case measure=>simp[intOf];omega
        · obtain rfl:k=0:=by omega
          rw[show ((0:Nat):Int)=0 from rfl];rcases zk9 Ho.out with ⟨rfl,rfl,rfl⟩ | ⟨g,rfl,hgb,hgc,-⟩
          · obtain rfl:R=[]:=List.eq_nil_of_length_eq_zero Hm1.out;rw[show ((0:Nat):Int)=0 from rfl];go_wp2_with fail;refine jl (by kernel_rfl) (by kernel_rfl) ?_
            repeat (go_big_quiet_step ((intro hw;first
             | rfl
             | (have q0:=HcL.out _ (Hbk2.out.trans (hw.mono Hbk2.out.size))
                go_simp;first | rfl | exact⟨rfl,hw⟩ | (trace_state;fail)))))
            refine wpQuiet_nil ?_;intro w3 hb3;have Hb3:=hid (Hbk.out.trans (hb3.mono Hbk.out.size));have Hc3:=hid (Hbj.out.trans (Hb3.out.mono Hbo.out));clear hb3;go_wp2_with fail;refine jl (by kernel_rfl) (by kernel_rfl) ?_
            repeat (go_big_quiet_step ((intro hw;first
             | rfl
             | (have q0:=HcL.out _ (Hc3.out.trans (hw.mono Hc3.out.size))
                go_simp;first | rfl | exact⟨rfl,hw⟩ | (trace_state;fail)))))
            refine wpQuiet_nil ?_;intro w4 hb4;have Hb4:=hid (Hb3.out.trans (hb4.mono Hb3.out.size));have Hc4:=hid (Hbj.out.trans (Hb4.out.mono Hbo.out));clear hb4;go_wp2_with fail;have r0:=fun w' (h:Below w4.heap.size w4 w')=>HcL.out w' (Hc4.out.trans (h.mono Hc4.out.size))
            have Ho4:=hid (zm Ho.out Hb4.out);have Hrd:=hid (show ∀w',Below w4.heap.size w4 w'→Rd w' 1 none 0 (zi []) from fun w' h=>⟨rfl,fun h=>by omega⟩);have Htk:=hid (show ∀w',Below w4.heap.size w4 w'→w'.ownsRow w2.heap.size 64 1 (.slice none 0 0) 0 (zi []) from fun w' h=>World.ownsRow_nil _ _ _ _);have Hfin:=hid (zqm HA.out (x:=x) (k:=0) (Nat.zero_le _) (fun h=>by omega) (by rw[Hm1.out];exact ht.out));have Hz4:=hid Hc4.out.size;have q0:=r0 w4 (Below.refl _ _)
            go_region_law (first
             | (refine zcr rfl (.tmp 103) (.tmp 106) rfl rfl w4.heap.size _ 1 [x] rfl (zu2 (by first | exact zh _ _ _ (by simp) | exact jp _ _ _ _ (zh _ _ _ (by simp))) (by simp <;> omega) rfl rfl (by unfold maxLen;omega)) _ 0 _ [] rfl (Hrd.out _ (by first | exact((Below.refl _ _).alloc (Nat.le_refl _) _).drew | exact((Below.refl _ _).drew).alloc (by simp) _)) (by omega) (by simp <;> omega) ?_
                intro v1 w1 ho1 hg1;obtain⟨g1,cc1,rfl,-,-⟩:=ho1.form (by omega)
                have hS1:Below w4.heap.size w4 w1:=by
                 refine Below.grown (by first | exact((Below.refl _ _).alloc (Nat.le_refl _) _).drew | exact((Below.refl _ _).drew).alloc (by simp) _) hg1 ?_ ?_
                 · simp <;> omega
                 · intro j hj;simp[Value.ownBlock,Act.eval] at hj
                   omega)
             | (refine zcr rfl (.tmp 98) (.tmp 107) rfl rfl w2.heap.size _ 0 [] rfl (Htk.out _ hS1) _ (1+0) _ ([x]++[]) rfl (Rd.own ho1) (by omega) (by have:=hS1.size;have:=Hz4.out;simp <;> omega) ?_
                intro v2 w6 ho2 hg2
                have hS2:Below w2.heap.size w2 w6:=by
                 refine Below.grown ((Hc4.out).trans (hS1.mono Hc4.out.size)) hg2 (by have:=hS1.size;have:=Hz4.out;omega) ?_;intro j hj;exact((Htk.out _ hS1).lt j hj).1))
            all_goals
             go_wp2;go_roundw
             case rel=>exact⟨j+1,x :: [],by omega,by go_num,hS2,by
              have e:(x :: []).length=0+(1+0):=by rfl
              exact⟨by rw[e];exact ho2,Hfin.out.1,by rw[e];have:=HRj.out;omega,fun y=>(Hfin.out.2 y).trans (HRm.out y).symm⟩⟩
             case measure=>simp[intOf];omega
          · go_wp2_with fail;refine jl (by kernel_rfl) (by kernel_rfl) ?_
            repeat (go_big_quiet_step ((intro hw;first
             | rfl
             | (have q0:=HcL.out _ (Hbk2.out.trans (hw.mono Hbk2.out.size))
                go_simp;first | rfl | exact⟨rfl,hw⟩ | (trace_state;fail)))))
            refine wpQuiet_nil ?_;intro w3 hb3;have Hb3:=hid (Hbk.out.trans (hb3.mono Hbk.out.size));have Hc3:=hid (Hbj.out.trans (Hb3.out.mono Hbo.out));clear hb3;go_wp2_with fail;refine jl (by kernel_rfl) (by kernel_rfl) ?_
            repeat (go_big_quiet_step ((intro hw;first
             | rfl
             | (have q0:=HcL.out _ (Hc3.out.trans (hw.mono Hc3.out.size))
                go_simp;first | rfl | exact⟨rfl,hw⟩ | (trace_state;fail)))))
            refine wpQuiet_nil ?_;intro w4 hb4;have Hb4:=hid (Hb3.out.trans (hb4.mono Hb3.out.size));have Hc4:=hid (Hbj.out.trans (Hb4.out.mono Hbo.out));clear hb4;go_wp2_with fail;have r0:=fun w' (h:Below w4.heap.size w4 w')=>HcL.out w' (Hc4.out.trans (h.mono Hc4.out.size))
            have Ho4:=hid (zm Ho.out Hb4.out);have Hrd:=hid (show ∀w',Below w4.heap.size w4 w'→Rd w' 1 (some ⟨g,0,none⟩) m (zi R) from fun w' h=>(Rd.own Ho4.out).below h)
            have Htk:=hid (show ∀w',Below w4.heap.size w4 w'→w'.ownsRow w2.heap.size 64 1 (.slice (some ⟨g,0,none⟩) 0 c1) 0 (zi []) from fun w' h=>by
             have:=zfk (zm Ho4.out h) 0 (Nat.zero_le _);rw[Nat.zero_mul,List.take_zero] at this;exact this)
            have Hfin:=hid (zqm HA.out (x:=x) (k:=0) (Nat.zero_le _) (fun h=>by omega) (by rw[Hm1.out];exact ht.out));have Hz4:=hid Hc4.out.size;have q0:=r0 w4 (Below.refl _ _)
            go_region_law (first
             | (refine zcr rfl (.tmp 103) (.tmp 106) rfl rfl w4.heap.size _ 1 [x] rfl (zu2 (by first | exact zh _ _ _ (by simp) | exact jp _ _ _ _ (zh _ _ _ (by simp))) (by simp <;> omega) rfl rfl (by unfold maxLen;omega)) _ m _ R rfl (Hrd.out _ (by first | exact((Below.refl _ _).alloc (Nat.le_refl _) _).drew | exact((Below.refl _ _).drew).alloc (by simp) _)) (by omega) (by simp <;> omega) ?_
                intro v1 w1 ho1 hg1;obtain⟨g1,cc1,rfl,-,-⟩:=ho1.form (by omega)
                have hS1:Below w4.heap.size w4 w1:=by
                 refine Below.grown (by first | exact((Below.refl _ _).alloc (Nat.le_refl _) _).drew | exact((Below.refl _ _).drew).alloc (by simp) _) hg1 ?_ ?_
                 · simp <;> omega
                 · intro j hj;simp[Value.ownBlock,Act.eval] at hj
                   omega)
             | (refine zcr rfl (.tmp 98) (.tmp 107) rfl rfl w2.heap.size _ 0 [] rfl (Htk.out _ hS1) _ (1+m) _ ([x]++R) rfl (Rd.own ho1) (by omega) (by have:=hS1.size;have:=Hz4.out;simp <;> omega) ?_
                intro v2 w6 ho2 hg2
                have hS2:Below w2.heap.size w2 w6:=by
                 refine Below.grown ((Hc4.out).trans (hS1.mono Hc4.out.size)) hg2 (by have:=hS1.size;have:=Hz4.out;omega) ?_;intro j hj;exact((Htk.out _ hS1).lt j hj).1))
            all_goals
             go_wp2;go_roundw
             case rel=>exact⟨j+1,x :: R,by omega,by go_num,hS2,by
              have e:(x :: R).length=0+(1+m):=by rw[List.length_cons,Hm1.out];omega
              exact⟨by rw[e];exact ho2,Hfin.out.1,by rw[e];have:=HRj.out;omega,fun y=>(Hfin.out.2 y).trans (HRm.out y).symm⟩⟩
             case measure=>simp[intOf];omega
     · obtain rfl:j=N:=by omega
       obtain⟨ho,hA,-,hRm⟩:=hR.out;go_wp2;go_ret;refine⟨⟨_,R,rfl,qt ho Hbs.out,hA,fun y=>?_⟩,Hb.out.trans (Hbj.out.mono Hbs.out)⟩;rw[hRm,HL.out,List.take_length,HLL.out]
theorem yh7 (s:Iv) (w:World):
 Calls Tryz.prog 131 #[ivV s] w fun e w'=>e=.returned (.bool (decide (s.1≤s.2)))∧Below w.heap.size w w':=by
 obtain⟨a,b⟩:=s;have hd:decide ((a:Int)≤(b:Int))=decide (a≤b):=by simp
 go_enter Tryz.func131,Tryz.ntmps131;go_wp2;go_ret;exact⟨zd5 rfl,(Below.refl _ _).alloc (Nat.le_refl _) _⟩
theorem yh8 (s:Iv) (x:Nat) (w:World):
 Calls Tryz.prog 267 #[ivV s,.int .u64 x] w fun e w'=>e=.returned (.bool (decide (s.1≤x) && decide (x≤s.2)))∧Below w.heap.size w w':=by
 obtain⟨a,b⟩:=s;have hb:=(Below.refl w.heap.size w).alloc (Nat.le_refl _) (.cells #[.int .u64 a,.int .u64 b] 135);by_cases h1:a≤x
 · by_cases h2:x≤b
   · have Hr:=hid (show (decide (a≤x) && decide (x≤b))=true from by simp[h1,h2]);go_enter Tryz.func267,Tryz.ntmps267;go_wp2;go_ret;exact⟨zd5 Hr.out.symm,hb⟩
   · have Hr:=hid (show (decide (a≤x) && decide (x≤b))=false from by simp[h2]);go_enter Tryz.func267,Tryz.ntmps267;go_wp2;go_ret;exact⟨zd5 Hr.out.symm,hb⟩
 · have Hr:=hid (show (decide (a≤x) && decide (x≤b))=false from by simp[h1]);go_enter Tryz.func267,Tryz.ntmps267;go_wp2;go_ret;exact⟨zd5 Hr.out.symm,hb⟩
theorem zu3 (a b:Iv) (w:World) (ha:a.1<18446744073709551616∧a.2<18446744073709551616) (hb:b.1<18446744073709551616∧b.2<18446744073709551616):
 Calls Tryz.prog 132 #[ivV a,ivV b] w fun e w'=>e=.returned (.int .i64 ((zac a b:Nat):Int))∧Below w.heap.size w w':=by
 obtain⟨x,y⟩:=a;obtain⟨z,u⟩:=b;have hz:=hb.1;have hx:=ha.1;clear ha hb;simp only at hx hz
 have hw:Below w.heap.size w ((w.alloc (.cells #[.int .u64 x,.int .u64 y] 135)).alloc (.cells #[.int .u64 z,.int .u64 u] 135)):=
  ((Below.refl _ _).alloc (Nat.le_refl _) _).alloc (by simp) _
 by_cases h1:y<z
 · have e1:IntKind.u64.wrap ((z:Int) - (y:Int))=((z - y:Nat):Int):=by rw[IntKind.wrap_u64];omega
   by_cases g:z - y=1
   · have Hr:=hid (show zac (x,y) (z,u)=1 from by simp[zac,h1,g]);rw[g] at e1;clear g hx hz;generalize zac (x,y) (z,u)=r at*;go_enter Tryz.func132,Tryz.ntmps132;go_wp2;go_ret;exact⟨zb6 (by rw[Hr.out];rfl),hw⟩
   · have Hr:=hid (show zac (x,y) (z,u)=0 from by simp[zac,h1,g]);have hne:(((z - y:Nat):Int) == 1)=false:=by rw[beq_eq_false_iff_ne];omega
     clear g hx hz;generalize zac (x,y) (z,u)=r at*;generalize z - y=d at*;go_enter Tryz.func132,Tryz.ntmps132;go_wp2;go_ret;exact⟨zb6 (by rw[Hr.out];rfl),hw⟩
 · by_cases h2:u<x
   · have e1:IntKind.u64.wrap ((x:Int) - (u:Int))=((x - u:Nat):Int):=by rw[IntKind.wrap_u64];omega
     by_cases g:x - u=1
     · have Hr:=hid (show zac (x,y) (z,u)=3 from by simp[zac,h1,h2,g]);rw[g] at e1;clear g hx hz;generalize zac (x,y) (z,u)=r at*;go_enter Tryz.func132,Tryz.ntmps132;go_wp2;go_ret;exact⟨zb6 (by rw[Hr.out];rfl),hw⟩
     · have Hr:=hid (show zac (x,y) (z,u)=4 from by simp[zac,h1,h2,g]);have hne:(((x - u:Nat):Int) == 1)=false:=by rw[beq_eq_false_iff_ne];omega
       clear g hx hz;generalize zac (x,y) (z,u)=r at*;generalize x - u=d at*;go_enter Tryz.func132,Tryz.ntmps132;go_wp2;go_ret;exact⟨zb6 (by rw[Hr.out];rfl),hw⟩
   · have Hr:=hid (show zac (x,y) (z,u)=2 from by simp[zac,h1,h2]);clear hx hz;generalize zac (x,y) (z,u)=r at*;go_enter Tryz.func132,Tryz.ntmps132;go_wp2;go_ret;exact⟨zb6 (by rw[Hr.out];rfl),hw⟩
theorem zjj (a:Option Addr) (n cap x:Nat) (l:List Iv) (w:World) (hI:Ivs w a n cap l):
 Calls Tryz.prog 217 #[.slice a n cap,.int .u64 x] w fun e w'=>e=.returned (.bool (mem l x))∧Below w.heap.size w w':=by
 have HI:=hid hI;have Hl:=hid hI.len;have hm:n≤9223372036854775807:=Nat.le_trans hI.room hI.most;clear hI;go_enter Tryz.func217,Tryz.ntmps217;go_wp2;go_loopw [5] (fun i wr=>∃k:Nat,k≤n∧i=.int .i64 k∧Below w.heap.size w wr∧Hid (mem (l.take k) x=false)) (fun i _=>n - (intOf i).toNat)
 case atStart=>exact⟨0,by omega,rfl,Below.refl _ _,rfl⟩
 case round=>
  obtain⟨k,hk,rfl,hb,ht⟩:=hrel;have Hb:=hid hb;clear hb;by_cases hkn:k<n
  · obtain⟨bb,oo,rfl,hcell⟩:=(HI.out.below Hb.out).cells (by omega);obtain⟨hc1,hc2⟩:=hcell k hkn;clear hcell;have hkl:k<l.length:=by rw[Hl.out];exact hkn
    have Htk:=hid (show l.take (k+1)=l.take k++[zb l k] from by rw[List.take_succ_eq_append_getElem hkl,jg hkl]);have Hsm:=hid (zbo hkl);clear hkl;have hC:=hid (fun w=>yh8 (zb l k) x w);generalize zb l k=s at*
    cases hx:(decide (s.1≤x) && decide (x≤s.2)) with
    | true=>
     have Hr:=hid (show mem l x=true from mem_iff.2 ⟨s,Hsm.out,by simpa using hx⟩);rw[hx] at hC;clear hx;go_wp2_with fail;refine(hC.out _).mono ?_;rintro e w1 ⟨rfl,hb1⟩;go_wp2_with fail;go_ret
     exact⟨zd5 Hr.out.symm,Hb.out.trans (hb1.mono Hb.out.size)⟩
    | false=>
     have Hr:=hid (show mem (l.take (k+1)) x=false from by rw[Htk.out,mem_append,ht.out,mem_cons,hx];rfl);rw[hx] at hC;clear hx;go_wp2_with fail;refine(hC.out _).mono ?_;rintro e w1 ⟨rfl,hb1⟩;have Hb1:=hid (Hb.out.trans (hb1.mono Hb.out.size));clear hb1;go_wp2_with fail;go_roundw
     case rel=>exact⟨k+1,by omega,by go_num,Hb1.out,Hr.out⟩
     case measure=>simp[intOf];omega
  · obtain rfl:k=n:=by omega
    have Hr:=hid (show mem l x=false from by have:=ht.out;rw[List.take_of_length_le (by rw[Hl.out];exact Nat.le_refl _)] at this;exact this);go_wp2;go_ret;exact⟨zd5 Hr.out.symm,Hb.out⟩
end
section
theorem zm3 {k:Kno} {x:Nat×Nat} (h:ckF k=some x):x.1≠0:=by
 obtain⟨i,-,-,h3⟩:=zgj h;unfold ze5 at h3;split at h3
 · rename_i y hy;cases h3;have:=zlc hy;exact this
 · split at h3
   · rename_i y hy;cases h3;have:=zny hy;exact this
   · cases h3
theorem yh9 {e:Ent} (h:LtE e) (hc:CanE e):zdo e=some e:=by
 cases hf:zdo e with
 | none=>have:=z27 h hf e.2.1;rw[zuf hc] at this;cases this
 | some f=>
  obtain⟨h1,h2,_,h4⟩:=zia h hf;rw[z2q hc h2 h1.symm fun c=>(h4 c).symm]
end
section
open Go.RowKit
theorem zm4 {w:World} {base g n c sz:Nat} {T:TypeId} {xs:List Value} (h:w.ownsRow base T sz (.slice (some ⟨g,0,none⟩) n c) n xs) (k:Nat) (hk:k≤n):Rd w sz (some ⟨g,k*sz,none⟩) (n - k) (xs.drop (k*sz)):=by
 have hlen:=h.1;refine⟨by rw[List.length_drop,hlen,Nat.sub_mul],fun hn=>⟨g,k*sz,rfl,fun j u hu=>?_⟩⟩;rw[List.getElem?_drop] at hu;have hc:=h.cells (g:=g) rfl (k*sz+j) u hu;rwa [qg,Nat.zero_add] at hc
