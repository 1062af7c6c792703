/- Walks and laws, joined: Wb37. -/
import Derived.Test.YtdnjfnofjaoajaaGreatDoorWb32
set_option linter.unusedVariables false
set_option maxHeartbeats 16000000
namespace Go.Proofs.YtdnjfnofjaoajaaGreatDoor
open Lib (hid)
section
open Go.RowKit
theorem zw6 {P:Program} {f:FuncId} {args:Array Value} {w w':World} {v:Value} (hw:Below w.heap.size w w') (h:Calls P f args w' fun e w''=>e=.returned v∧w'=w''):
 Calls P f args w' fun e w''=>e=.returned v∧Below w.heap.size w w'':=h.mono fun e w'' ⟨he,hq⟩=>⟨he,hq ▸ hw⟩
end
section
theorem zw7:∀{a b:List Nat},Asc a→Asc b→(∀x∈a,∀y∈b,x<y)→Asc (a++b)
 | [],b,_,hb,_=>hb
 | x :: a,b,ha,hb,h=>zd0 (fun y hy=>by
     rcases List.mem_append.1 hy with hy | hy
     · exact ha.lower y hy
     · exact h x (List.mem_cons_self ..) y hy) (zw7 ha.tail hb fun z hz y hy=>h z (List.mem_cons_of_mem _ hz) y hy)
theorem zl4 {l:List Nat} (h:Asc l) {x k:Nat} (hk:k≤l.length) (h1:0<k→nth l (k - 1)<x) (h2:∀t,k≤t→t<l.length→x<nth l t):
 Asc (l.take k++x :: l.drop k)∧∀y,y∈l.take k++x :: l.drop k↔y∈l∨y=x:=by
 have e:l=l.take k++l.drop k:=(List.take_append_drop k l).symm;have h':=h;rw[e] at h';obtain⟨a1,a2,a3⟩:=zmk h'
 have lo:∀y∈l.take k,y<x:=by
  intro y hy;obtain⟨i,hi,rfl⟩:=List.getElem_of_mem hy;simp at hi;have hi2:i<l.length:=by omega
  have:(l.take k)[i]'(by simp;omega)=nth l i:=by simp[nth,hi2]
  rw[this];have h3:=h1 (by omega);by_cases e:i=k - 1
  · subst e;exact h3
  · have:=zco h (i:=i) (j:=k - 1) (by omega) (by omega);omega
 have hi:∀y∈l.drop k,x<y:=by
  intro y hy;obtain⟨i,hi,rfl⟩:=List.getElem_of_mem hy;simp at hi;have:(l.drop k)[i]'(by simp;omega)=nth l (k+i):=by simp[nth,show k+i<l.length by omega]
  rw[this];exact h2 _ (by omega) (by omega)
 refine⟨zw7 a1 (zd0 hi a2) ?_,?_⟩
 · intro y hy z hz;rcases List.mem_cons.1 hz with rfl | hz
   · exact lo y hy
   · exact a3 y hy z hz
 · intro y;rw[List.mem_append,List.mem_cons];constructor
   · rintro(h | rfl | h)
     · exact .inl (List.mem_of_mem_take h)
     · exact .inr rfl
     · exact .inl (List.mem_of_mem_drop h)
   · rintro(h | rfl)
     · rw[e] at h;rcases List.mem_append.1 h with h | h
       · exact .inl h
       · exact .inr (.inr h)
     · exact .inr (.inl rfl)
theorem z8o (f:Nat→Bool) {L:List Nat} {k:Nat} (h:k<L.length):
 qu ((yx f L).take (k+1)) []=if f (nth L k)=true then zby (qu ((yx f L).take k) []) (za4 L k) else qu ((yx f L).take k) []:=by
 have hk:k<(yx f L).length:=by rw[zav];exact h
 have e:=zmr f h;rw[List.getElem?_eq_getElem hk] at e;have e':(yx f L)[k]=(za4 L k,f (nth L k)):=by simpa using e
 rw[List.take_succ_eq_append_getElem hk,zmq,e',qu]
 rfl
theorem zw8 {L:List Nat} {k:Nat} (h:k<L.length) (hl:∀x∈L,x<18446744073709551616):(za4 L k).1<18446744073709551616∧(za4 L k).2<18446744073709551616:=by
 have h1:=hl _ (za5 h);unfold za4;split
 · rename_i h2;have:=hl _ (za5 h2);exact⟨h1,by simp only;omega⟩
 · exact⟨h1,by simp only;omega⟩
theorem z8p (f:Nat→Bool) {L:List Nat} (hl:∀x∈L,x<18446744073709551616) (k:Nat):∀p∈(yx f L).take k,p.1.1<18446744073709551616∧p.1.2<18446744073709551616:=by
 intro p hp;obtain⟨i,hi,rfl⟩:=List.getElem_of_mem (List.mem_of_mem_take hp);rw[zav] at hi;have e:=zmr f hi;rw[List.getElem?_eq_getElem (by rw[zav];exact hi)] at e;have e':(yx f L)[i]'(by rw[zav];exact hi)=(za4 L i,f (nth L i)):=by simpa using e
 rw[e'];exact zw8 hi hl
end
section
open Go.RowKit
theorem z8q (s:Iv) (x:Nat) (w:World):
 Calls Tryz.prog 224 #[ivV s,.int .u64 x] w fun e w'=>e=.returned (.bool (decide (s.1≤x) && decide (x≤s.2)))∧Below w.heap.size w w':=by
 obtain⟨a,b⟩:=s;have hb:=(Below.refl w.heap.size w).alloc (Nat.le_refl _) (.cells #[.int .u64 a,.int .u64 b] 99);by_cases h1:a≤x
 · by_cases h2:x≤b
   · have Hr:=hid (show (decide (a≤x) && decide (x≤b))=true from by simp[h1,h2]);go_enter Tryz.func224,Tryz.ntmps224;go_wp2;go_ret;exact⟨zb9 Hr.out.symm,hb⟩
   · have Hr:=hid (show (decide (a≤x) && decide (x≤b))=false from by simp[h2]);go_enter Tryz.func224,Tryz.ntmps224;go_wp2;go_ret;exact⟨zb9 Hr.out.symm,hb⟩
 · have Hr:=hid (show (decide (a≤x) && decide (x≤b))=false from by simp[h1]);go_enter Tryz.func224,Tryz.ntmps224;go_wp2;go_ret;exact⟨zb9 Hr.out.symm,hb⟩
theorem zf5 (a:Option Addr) (n cap x:Nat) (l:List Iv) (w:World) (hI:Ivs w a n cap l):
 Calls Tryz.prog 172 #[.slice a n cap,.int .u64 x] w fun e w'=>e=.returned (.bool (mem l x))∧Below w.heap.size w w':=by
 have HI:=hid hI;have Hl:=hid hI.len;have hm:n≤9223372036854775807:=Nat.le_trans hI.room hI.most;clear hI;go_enter Tryz.func172,Tryz.ntmps172;go_wp2;go_loopw [5] (fun i wr=>∃k:Nat,k≤n∧i=.int .i64 k∧Below w.heap.size w wr∧Hid (mem (l.take k) x=false)) (fun i _=>n - (intOf i).toNat)
 case atStart=>exact⟨0,by omega,rfl,Below.refl _ _,rfl⟩
 case round=>
  obtain⟨k,hk,rfl,hb,ht⟩:=hrel;have Hb:=hid hb;clear hb;by_cases hkn:k<n
  · obtain⟨bb,oo,rfl,hcell⟩:=(HI.out.below Hb.out).cells (by omega);obtain⟨hc1,hc2⟩:=hcell k hkn;clear hcell;have hkl:k<l.length:=by rw[Hl.out];exact hkn
    have Htk:=hid (show l.take (k+1)=l.take k++[zb l k] from by rw[List.take_succ_eq_append_getElem hkl,qf hkl]);have Hsm:=hid (zaa hkl);clear hkl;have hC:=hid (fun w=>z8q (zb l k) x w);generalize zb l k=s at*
    cases hx:(decide (s.1≤x) && decide (x≤s.2)) with
    | true=>
     have Hr:=hid (show mem l x=true from mem_iff.2 ⟨s,Hsm.out,by simpa using hx⟩);rw[hx] at hC;clear hx;go_wp2_with fail;refine(hC.out _).mono ?_;rintro e w1 ⟨rfl,hb1⟩;go_wp2_with fail;go_ret
     exact⟨zb9 Hr.out.symm,Hb.out.trans (hb1.mono Hb.out.size)⟩
    | false=>
     have Hr:=hid (show mem (l.take (k+1)) x=false from by rw[Htk.out,mem_append,ht.out,mem_cons,hx];rfl);rw[hx] at hC;clear hx;go_wp2_with fail;refine(hC.out _).mono ?_;rintro e w1 ⟨rfl,hb1⟩;have Hb1:=hid (Hb.out.trans (hb1.mono Hb.out.size));clear hb1;go_wp2_with fail;go_roundw
     case rel=>exact⟨k+1,by omega,by go_num,Hb1.out,Hr.out⟩
     case measure=>simp[intOf];omega
  · obtain rfl:k=n:=by omega
    have Hr:=hid (show mem l x=false from by have:=ht.out;rw[List.take_of_length_le (by rw[Hl.out];exact Nat.le_refl _)] at this;exact this);go_wp2;go_ret;exact⟨zb9 Hr.out.symm,Hb.out⟩
theorem zfc (w:World) (sz:Nat):Rd w sz none 0 []:=⟨by simp,fun h=>by omega⟩
theorem zdh {w:World} {base size n c g:Nat} {e:TypeId} {xs:List Value} (h:w.ownsRow base e size (.slice (some ⟨g,0,none⟩) n c) n xs) (k:Nat) (hk:k≤n):w.ownsRow base e size (.slice (some ⟨g,0,none⟩) k c) k (xs.take (k*size)):=by
 have h1:=h.1;rcases h.2 with ⟨h',_⟩ | ⟨g',cap',cur,h',hb,hg,hnc,hcm,hcs,htake⟩
 · simp at h'
 · simp only[Value.slice.injEq,Option.some.injEq,Addr.mk.injEq,and_true,true_and] at h';obtain⟨rfl,rfl⟩:=h';have hks:k*size≤n*size:=Nat.mul_le_mul_right _ hk;refine⟨by rw[List.length_take,h1];omega,.inr ⟨g,c,cur,rfl,hb,hg,by omega,hcm,hcs,?_⟩⟩;rw[←htake,List.take_take];congr 1;omega
theorem zpa (l:List Nat) (k:Nat):(zi l).take k=zi (l.take k):=by simp[zi,List.map_take]
theorem z8r (l:List Nat) (k:Nat):(zi l).drop k=zi (l.drop k):=by simp[zi,List.map_drop]
theorem zpb (w:World):Calls Tryz.prog 187 #[] w fun e w'=>e=.returned (.int .u64 18446744073709551615)∧w=w':=by
 go_enter Tryz.func187,Tryz.ntmps187;go_wp2;go_ret;exact⟨rfl,rfl⟩
theorem zw9 (a:Option Addr) (n cap i:Nat) (l:List Nat) (w:World) (hU:U64s w a n cap l) (hi:i<n) (hn:n≤1000000) (hp:i+1<n→0<nth l (i+1)):
 Calls Tryz.prog 171 #[.slice a n cap,.int .i64 i] w fun e w'=>e=.returned (ivV (za4 l i))∧Below w.heap.size w w':=by
 obtain⟨bb,oo,rfl,hcell⟩:=hU.cells (by omega);have hc1:=hcell i hi;unfold za4;rw[hU.len];have hl1:=ze hc1;simp only at hl1;by_cases h:i+1<n
 · have hc2:=hcell (i+1) h;have hx:=hU.lt (nth l (i+1)) (by simp[nth,hU.len,h]);have hp':=hp h;rw[if_pos h];have hw:IntKind.u64.wrap (((nth l (i+1):Nat):Int) - 1)=((nth l (i+1) - 1:Nat):Int):=by rw[IntKind.wrap_u64];omega
   clear hp hcell hU;generalize nth l i=x at*;generalize nth l (i+1)=y at*;have hl2:=ze hc2;simp only at hl2;clear hx hp';generalize y - 1=z at*;have hd:decide ((i:Int)+1<(n:Int))=true:=by rw[decide_eq_true_iff];omega
   have h1:(i:Int)<(n:Int):=by omega
   have h2:(i:Int)+1<(n:Int):=by omega
   have h3:((i:Int)+1).toNat=i+1:=by omega
   have hs:IntKind.i64.wrap ((i:Int)+1)=(i:Int)+1:=by rw[IntKind.wrap_i64];omega
   go_enter Tryz.func171,Tryz.ntmps171;go_wp2;go_region
   all_goals
    go_wp2;refine bodyPost_ret (v:=ivV (x,z)) (by simp[results,Tryz.results171,go_sem]) rfl ⟨rfl,?_⟩;exact((Below.refl _ _).alloc (Nat.le_refl _) _).drew
 · rw[if_neg h];clear hp hcell hU;generalize nth l i=x at*;have hd:decide ((i:Int)+1<(n:Int))=false:=by rw[decide_eq_false_iff_not];omega
   have h1:(i:Int)<(n:Int):=by omega
   have hs:IntKind.i64.wrap ((i:Int)+1)=(i:Int)+1:=by rw[IntKind.wrap_i64];omega
   go_enter Tryz.func171,Tryz.ntmps171;go_wp2;go_region_with (go_at_call 187;refine(zpb _).mono ?_;rintro e w1 ⟨rfl,rfl⟩)
   all_goals
    go_wp2;refine bodyPost_ret (v:=ivV (x,18446744073709551615)) (by simp[results,Tryz.results171,go_sem]) rfl ⟨rfl,?_⟩;exact((Below.refl _ _).alloc (Nat.le_refl _) _).drew
end
section
theorem zxa {l L:List Nat} (h:Asc L) (hm:∀y,y∈L↔y∈l):L=zcs l:=zgb h (zeq l) fun y=>(hm y).trans (zdl l y).symm
end
section
open Go.RowKit
theorem zja {w:World} {base g n c sz:Nat} {T:TypeId} {xs:List Value} (h:w.ownsRow base T sz (.slice (some ⟨g,0,none⟩) n c) n xs) (k:Nat) (hk:k≤n):Rd w sz (some ⟨g,k*sz,none⟩) (n - k) (xs.drop (k*sz)):=by
 have hlen:=h.1;refine⟨by rw[List.length_drop,hlen,Nat.sub_mul],fun hn=>⟨g,k*sz,rfl,fun j u hu=>?_⟩⟩;rw[List.getElem?_drop] at hu;have hc:=h.cells (g:=g) rfl (k*sz+j) u hu;rwa [yp,Nat.zero_add] at hc
theorem zdi {w:World} {ops:Array Oper} {o:Oper} {a:Act} {K:Act→World→Prop} {Q:Exit→Act→World→Prop} {E:Prop} (hgd:o.guard=none) (s x:Operand)
 (ho:o.op=.call { callee:=.builtin .append,args:= #[s,x],argTypes:= #[81,81] }) (hty:o.type=81)
 (base:Nat) (v:Value) (n:Nat) (xs:List Iv) (hs:a.eval s=v) (hown:w.ownsRow base 99 2 v n (ivC xs)) (A:Option Addr) (m c:Nat) (l:List Iv) (hx:a.eval x=.slice A m c) (hr:Rd w 2 A m (ivC l)) (hb:n+m≤1000000) (hbase:base≤w.heap.size)
 (h:∀v' w',w'.ownsRow base 99 2 v' (n+m) (ivC (xs++l))→w.grownBy w' v.ownBlock→K (a.put o.dst v') w'):
 if Region.wanted o (yielded ops a.tmps)=true then Oper.wp Tryz.prog o a w K Q else E:=by
 obtain⟨v',w',hrun,h1,h2⟩:=zd4 base v n xs hown A m c l hr hb hbase;exact zem hgd s x _ ho _ _ hs hx v' w' (by rw[hty];exact hrun) (h v' w' h1 h2)
theorem zck {w w':World} {row:Option Nat} {sz g n:Nat} {xs:List Value} (hg:w.grownBy w' row) (h:Rd w sz (some ⟨g,0,none⟩) n xs) (hr:some g≠row) (hlt:g<w.heap.size):Rd w' sz (some ⟨g,0,none⟩) n xs:=
 ⟨h.1,fun hn=>by
  obtain⟨b,o,e,hc⟩:=h.2 hn;cases e;refine⟨_,_,rfl,fun j u hu=>?_⟩;rw[←hc j u hu];exact World.cell?_of_block (hg.block _ hlt hr)⟩
set_option maxRecDepth 20000 in
theorem z8s (g n k cap:Nat) (l:List Iv) (t s:Iv) (w0 w:World) (hb:Below w0.heap.size w0 w) (hown:w.ownsRow w0.heap.size 99 2 (.slice (some ⟨g,0,none⟩) n cap) n (ivC (l++[t]))) (hk:n=k+1) (hn:n≤100000)
 (ht:t.1<18446744073709551616∧t.2<18446744073709551616) (hs:s.1<18446744073709551616∧s.2<18446744073709551616) (hts:jt t s=1):
 Calls Tryz.prog 222 #[.slice (some ⟨g,0,none⟩) n cap,ivV s] w fun e w'=>(∃v',e=.returned v'∧w'.ownsRow w0.heap.size 99 2 v' n (ivC (l++[(t.1,s.2)])))∧Below w0.heap.size w0 w':=by
 have hl:l.length=k:=by have:=hown.1;rw[zd1] at this;simp at this;omega
 have hR:=hid (fun w=>zo3 t s w ht hs);rw[hts] at hR
 have hcap:n≤cap:=by
  rcases hown.2 with ⟨h',_⟩ | ⟨g',cap',cur,h',_,_,hnc,_⟩
  · simp at h'
  · simp only[Value.slice.injEq,Option.some.injEq,Addr.mk.injEq,and_true,true_and] at h';obtain⟨rfl,rfl⟩:=h';exact hnc
 obtain⟨e1,e2⟩:=zd2 (l++[t]) k (by simp;omega);have hnt:zb (l++[t]) k=t:=by rw[qf (by simp;omega),List.getElem_append_right (by omega)];simp
 rw[hnt] at e1 e2;have hc1:=(hown.cellAt (k*2) (by omega)).trans e1;have hc2:=(hown.cellAt (k*2+1) (by omega)).trans e2;have Ho:=hid hown;have Hb:=hid hb;have Hl:=hid hl;have hsub:IntKind.i64.wrap ((n:Int) - 1)=(k:Int):=by rw[IntKind.wrap_i64];omega
 have hg0:decide (0<(n:Int))=true:=by rw[decide_eq_true_iff];omega
 have hn0:0<n:=by omega
 have h01:(k:Int)<(n:Int):=by omega
 have h02:k≤cap:=by omega
 have Hk:=hid hk;have hgl:=ze hc1;simp only at hgl;clear ht hs hts hown hb hl hnt e1 e2 hk hcap;obtain⟨x,y⟩:=t;obtain⟨z,u⟩:=s;go_enter Tryz.func222,Tryz.ntmps222;go_wp2_with fail;have hA:Below w.heap.size w (w.alloc (.cells #[.int .u64 z,.int .u64 u] 99)):=(Below.refl _ _).alloc (Nat.le_refl _) _;have q1:=(hA.cell (p:=⟨g,k*2,none⟩) hgl).trans hc1;have q2:=(hA.cell (p:=⟨g,k*2+1,none⟩) hgl).trans hc2;have q3:(w.alloc (.cells #[.int .u64 z,.int .u64 u] 99)).cell? ⟨w.heap.size,0,none⟩=some (.int .u64 z):=by simp[go_sem]
 have q4:(w.alloc (.cells #[.int .u64 z,.int .u64 u] 99)).cell? ⟨w.heap.size,1,none⟩=some (.int .u64 u):=by simp[go_sem]
 have HA:=hid hA;have Hgs:=hid (show w.heap.size<(w.alloc (.cells #[.int .u64 z,.int .u64 u] 99)).heap.size from by simp);clear hA hc1 hc2;generalize hW:w.alloc (.cells #[.int .u64 z,.int .u64 u] 99)=W at*;have HW:=hid hW;clear hW;refine qi (by kernel_rfl) (by kernel_rfl) ?_
 repeat (go_big_quiet_step ((intro hw;first
  | rfl
  | (go_at_call 89;exact kp hw (hR.out _))
  | (have q1:=(hw.cell (p:=⟨g,k*2,none⟩) (ze q1)).trans q1
     have q2:=(hw.cell (p:=⟨g,k*2+1,none⟩) (ze q2)).trans q2;have q3:=(hw.cell (p:=⟨w.heap.size,0,none⟩) (ze q3)).trans q3;have q4:=(hw.cell (p:=⟨w.heap.size,1,none⟩) (ze q4)).trans q4;go_simp;first | rfl | exact⟨rfl,hw⟩))))
 refine wpQuiet_nil ?_;intro w3 hb3;have q1:=(hb3.cell (p:=⟨g,k*2,none⟩) (ze q1)).trans q1;have q2:=(hb3.cell (p:=⟨g,k*2+1,none⟩) (ze q2)).trans q2;have q3:=(hb3.cell (p:=⟨w.heap.size,0,none⟩) (ze q3)).trans q3;have q4:=(hb3.cell (p:=⟨w.heap.size,1,none⟩) (ze q4)).trans q4;have Hw3:=hid (HA.out.trans (hb3.mono HA.out.size));clear hb3;go_wp2_with fail;have r1:∀w',Below w3.heap.size w3 w'→w'.cell? ⟨g,k*2,none⟩=some (.int .u64 x):=fun w' h=>(h.cell (p:=⟨g,k*2,none⟩) (ze q1)).trans q1
 have r3:∀w',Below w3.heap.size w3 w'→w'.cell? ⟨w.heap.size,1,none⟩=some (.int .u64 u):=fun w' h=>(h.cell (p:=⟨w.heap.size,1,none⟩) (ze q4)).trans q4
 have Hrd:=hid (show ∀w',Below w3.heap.size w3 w'→Rd w' 2 (some ⟨g,0,none⟩) k (ivC l) from fun w' h=>by
  have h1:=(Rd.own (zdh Ho.out k (by omega))).below (Hw3.out.trans (h.mono Hw3.out.size));rwa [zju,List.take_left' (by rw[zd1,Hl.out])] at h1)
 have Hz3:=hid Hw3.out.size;clear q1 q2 q3 q4
 go_region_held3 (fun w'=>Below w3.heap.size w3 w') (first | assumption | exact(Below.refl _ _).drew | exact Below.alloc (by assumption) (Below.size (by assumption)) _) (first
  | (refine zdi rfl (.tmp 20) (.tmp 24) rfl rfl w3.heap.size _ 0 [] rfl (zcq (by first | exact zg _ _ _ (by simp) | exact yy _ _ _ _ (zg _ _ _ (by simp))) (by simp <;> omega)) _ k _ l rfl (Hrd.out _ (by assumption)) (by omega) (by simp <;> omega) ?_
     intro v1 w1 ho1 hg1
     have hS1:Below w3.heap.size w3 w1:=by
      refine Below.grown ?_ hg1 ?_ ?_
      · assumption
      · simp <;> omega
      · intro j hj;simp[Value.ownBlock,Act.eval] at hj
        omega)
  | (refine zdi rfl (.tmp 25) (.tmp 35) rfl rfl w3.heap.size _ _ _ rfl (by first | exact ho1 | exact ho1.alloc _) _ 1 _ [(x,u)] rfl (by first | exact yg (zg _ _ _ (by simp)) rfl rfl | exact zck hg1 (yg (by first | exact zg _ _ _ (by simp) | exact yy _ _ _ _ (zg _ _ _ (by simp))) rfl rfl) (by simp[Value.ownBlock,Act.eval]) (by simp <;> omega)) (by omega) (by have:=hS1.size;simp <;> omega) ?_
     intro v2 w2 ho2 hg2
     have hS2:Below w3.heap.size w3 w2:=by
      refine Below.grown ?_ hg2 ?_ (fun j hj=>(ho1.lt j hj).1)
      · assumption
      · have:=hS1.size;simp <;> omega))
 all_goals
  go_wp2;go_ret;refine⟨⟨v2,rfl,?_⟩,Hb.out.trans (Hw3.out.trans (hS2.mono Hw3.out.size) |>.mono Hb.out.size)⟩;have h:=y9 ho2 (Nat.le_trans Hb.out.size Hw3.out.size);rw[show (0:Nat)+k+1=n by have:=Hk.out;omega] at h;simpa using h
theorem z8t (a:Option Addr) (cap:Nat) (s:Iv) (w0 w:World) (hb:Below w0.heap.size w0 w) (hown:w.ownsRow w0.heap.size 99 2 (.slice a 0 cap) 0 []):
 Calls Tryz.prog 222 #[.slice a 0 cap,ivV s] w fun e w'=>(∃v',e=.returned v'∧w'.ownsRow w0.heap.size 99 2 v' 1 (ivC [s]))∧Below w0.heap.size w0 w':=by
 have Ho:=hid hown;have Hb:=hid hb;clear hown hb;obtain⟨z,u⟩:=s;go_enter Tryz.func222,Tryz.ntmps222;go_wp2_with fail;have hA:Below w.heap.size w (w.alloc (.cells #[.int .u64 z,.int .u64 u] 99)):=(Below.refl _ _).alloc (Nat.le_refl _) _;have q3:(w.alloc (.cells #[.int .u64 z,.int .u64 u] 99)).cell? ⟨w.heap.size,0,none⟩=some (.int .u64 z):=by simp[go_sem]
 have q4:(w.alloc (.cells #[.int .u64 z,.int .u64 u] 99)).cell? ⟨w.heap.size,1,none⟩=some (.int .u64 u):=by simp[go_sem]
 have HA:=hid hA;clear hA;generalize hW:w.alloc (.cells #[.int .u64 z,.int .u64 u] 99)=W at*;have HW:=hid hW;clear hW;refine qi (by kernel_rfl) (by kernel_rfl) ?_;repeat (go_big_quiet_step ((intro hw;rfl)))
 refine wpQuiet_nil ?_;intro w3 hb3;have q3:=(hb3.cell (p:=⟨w.heap.size,0,none⟩) (ze q3)).trans q3;have q4:=(hb3.cell (p:=⟨w.heap.size,1,none⟩) (ze q4)).trans q4;have Hw3:=hid (HA.out.trans (hb3.mono HA.out.size));clear hb3;have Hz:=hid (Nat.le_trans Hb.out.size Hw3.out.size);obtain⟨v',w',hr,ho,hg⟩:=zd4 w0.heap.size (.slice a 0 cap) 0 [] ((zm Ho.out Hw3.out).alloc (.cells #[.int .u64 z,.int .u64 u] 99)) (some ⟨w3.heap.size,0,none⟩) 1 1 [(z,u)] (yg (zg _ _ _ rfl) rfl rfl) (by omega) (by have:=Hz.out;simp;omega);have Ho':=hid ho;clear ho;have Hb':=hid ((Hb.out.trans (Hw3.out.mono Hb.out.size)).alloc Hz.out (.cells #[.int .u64 z,.int .u64 u] 99) |>.grown hg (by have:=Hz.out;simp;omega) (fun k hk=>(Ho.out.lt k hk).1));clear hg;go_wp2_with (at_builtin;refine jf _ _ 81 rfl rfl _ _ rfl rfl _ _ hr ?_);go_ret;exact⟨⟨v',rfl,by simpa using Ho'.out⟩,Hb'.out⟩
set_option maxRecDepth 20000 in
theorem z8u (g n k cap:Nat) (l:List Iv) (t s:Iv) (w0 w:World) (hb:Below w0.heap.size w0 w) (hown:w.ownsRow w0.heap.size 99 2 (.slice (some ⟨g,0,none⟩) n cap) n (ivC (l++[t]))) (hk:n=k+1) (hn:n≤100000)
 (ht:t.1<18446744073709551616∧t.2<18446744073709551616) (hs:s.1<18446744073709551616∧s.2<18446744073709551616) (hts:jt t s≠1):
 Calls Tryz.prog 222 #[.slice (some ⟨g,0,none⟩) n cap,ivV s] w fun e w'=>(∃v',e=.returned v'∧w'.ownsRow w0.heap.size 99 2 v' (n+1) (ivC (l++[t]++[s])))∧Below w0.heap.size w0 w':=by
 have hl:l.length=k:=by have:=hown.1;rw[zd1] at this;simp at this;omega
 have hR:=hid (fun w=>zo3 t s w ht hs);have hne:(((jt t s:Nat):Int) == 1)=false:=by rw[beq_eq_false_iff_ne];omega
 generalize jt t s=r at*;obtain⟨e1,e2⟩:=zd2 (l++[t]) k (by simp;omega);have hnt:zb (l++[t]) k=t:=by rw[qf (by simp;omega),List.getElem_append_right (by omega)];simp
 rw[hnt] at e1 e2;have hc1:=(hown.cellAt (k*2) (by omega)).trans e1;have hc2:=(hown.cellAt (k*2+1) (by omega)).trans e2;have Ho:=hid hown;have Hb:=hid hb;have Hl:=hid hl;have hsub:IntKind.i64.wrap ((n:Int) - 1)=(k:Int):=by rw[IntKind.wrap_i64];omega
 have hg0:decide (0<(n:Int))=true:=by rw[decide_eq_true_iff];omega
 have hn0:0<n:=by omega
 have h01:(k:Int)<(n:Int):=by omega
 have Hk:=hid hk;have hgl:=ze hc1;simp only at hgl;clear ht hs hts hown hb hl hnt e1 e2 hk;obtain⟨x,y⟩:=t;obtain⟨z,u⟩:=s;go_enter Tryz.func222,Tryz.ntmps222;go_wp2_with fail;have hA:Below w.heap.size w (w.alloc (.cells #[.int .u64 z,.int .u64 u] 99)):=(Below.refl _ _).alloc (Nat.le_refl _) _;have q1:=(hA.cell (p:=⟨g,k*2,none⟩) hgl).trans hc1;have q2:=(hA.cell (p:=⟨g,k*2+1,none⟩) hgl).trans hc2;have q3:(w.alloc (.cells #[.int .u64 z,.int .u64 u] 99)).cell? ⟨w.heap.size,0,none⟩=some (.int .u64 z):=by simp[go_sem]
 have q4:(w.alloc (.cells #[.int .u64 z,.int .u64 u] 99)).cell? ⟨w.heap.size,1,none⟩=some (.int .u64 u):=by simp[go_sem]
 have HA:=hid hA;clear hA hc1 hc2;generalize hW:w.alloc (.cells #[.int .u64 z,.int .u64 u] 99)=W at*;have HW:=hid hW;clear hW;refine qi (by kernel_rfl) (by kernel_rfl) ?_
 repeat (go_big_quiet_step ((intro hw;first
  | rfl
  | (go_at_call 89;exact kp hw (hR.out _))
  | (have q1:=(hw.cell (p:=⟨g,k*2,none⟩) (ze q1)).trans q1
     have q2:=(hw.cell (p:=⟨g,k*2+1,none⟩) (ze q2)).trans q2;have q3:=(hw.cell (p:=⟨w.heap.size,0,none⟩) (ze q3)).trans q3;have q4:=(hw.cell (p:=⟨w.heap.size,1,none⟩) (ze q4)).trans q4;go_simp;first | rfl | exact⟨rfl,hw⟩))))
 refine wpQuiet_nil ?_;intro w3 hb3;have q3:=(hb3.cell (p:=⟨w.heap.size,0,none⟩) (ze q3)).trans q3;have q4:=(hb3.cell (p:=⟨w.heap.size,1,none⟩) (ze q4)).trans q4;have Hw3:=hid (HA.out.trans (hb3.mono HA.out.size));clear hb3 q1 q2;have Hz:=hid (Nat.le_trans Hb.out.size Hw3.out.size);obtain⟨v',w',hr,ho,hg⟩:=zd4 w0.heap.size (.slice (some ⟨g,0,none⟩) n cap) n (l++[(x,y)]) ((zm Ho.out Hw3.out).alloc (.cells #[.int .u64 z,.int .u64 u] 99)) (some ⟨w3.heap.size,0,none⟩) 1 1 [(z,u)] (yg (zg _ _ _ rfl) rfl rfl) (by omega) (by have:=Hz.out;simp;omega);have Ho':=hid ho;clear ho;have Hb':=hid ((Hb.out.trans (Hw3.out.mono Hb.out.size)).alloc Hz.out (.cells #[.int .u64 z,.int .u64 u] 99) |>.grown hg (by have:=Hz.out;simp;omega) (fun k hk=>(Ho.out.lt k hk).1));clear hg;go_wp2_with (at_builtin;refine jf _ _ 81 rfl rfl _ _ rfl rfl _ _ hr ?_);go_ret;exact⟨⟨v',rfl,Ho'.out⟩,Hb'.out⟩
theorem zxb {a b:Iv}:jt a b=1↔a.2+1=b.1:=by
 unfold jt;repeat' split
 all_goals omega
theorem z8v (v:Value) (n:Nat) (l:List Iv) (s:Iv) (w0 w:World) (hb:Below w0.heap.size w0 w) (hown:w.ownsRow w0.heap.size 99 2 v n (ivC l)) (hn:n≤100000)
 (hl:∀t∈l,t.1<18446744073709551616∧t.2<18446744073709551616) (hs:s.1<18446744073709551616∧s.2<18446744073709551616):
 Calls Tryz.prog 222 #[v,ivV s] w fun e w'=>(∃v',e=.returned v'∧w'.ownsRow w0.heap.size 99 2 v' (zby l s).length (ivC (zby l s)))∧Below w0.heap.size w0 w':=by
 have hln:l.length=n:=by have:=hown.1;rw[zd1] at this;omega
 rcases zcm l with rfl | ⟨l,t,rfl⟩
 · obtain rfl:n=0:=by simpa using hln.symm
   obtain⟨a,cap,rfl,-⟩:=zah hown (by simp);exact z8t a cap s w0 w hb hown
 · rw[List.length_append,List.length_singleton] at hln;obtain⟨g,cap,rfl,-⟩:=hown.form (by omega);rw[zej];by_cases h:t.2+1=s.1
   · rw[if_pos h];refine(z8s g n l.length cap l t s w0 w hb hown (by omega) hn (hl t (by simp)) hs (zxb.2 h)).mono ?_;rintro e w' ⟨⟨v',h1,h2⟩,h3⟩;exact⟨⟨v',h1,by rw[List.length_append,List.length_singleton,hln];exact h2⟩,h3⟩
   · rw[if_neg h];refine(z8u g n l.length cap l t s w0 w hb hown (by omega) hn (hl t (by simp)) hs (fun e=>h (zxb.1 e))).mono ?_;rintro e w' ⟨⟨v',h1,h2⟩,h3⟩;exact⟨⟨v',h1,by rw[List.length_append,List.length_append,List.length_singleton,List.length_singleton,hln];exact h2⟩,h3⟩
end
end Go.Proofs.YtdnjfnofjaoajaaGreatDoor
