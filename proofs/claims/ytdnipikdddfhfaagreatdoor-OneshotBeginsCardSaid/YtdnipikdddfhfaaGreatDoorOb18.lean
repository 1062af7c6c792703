/- Part 18. -/
import Derived.Test.YtdnipikdddfhfaaGreatDoorOb17
set_option linter.unusedVariables false
set_option maxHeartbeats 16000000
namespace Go.Proofs.YtdnipikdddfhfaaGreatDoor
open Lib (hid)
section
def jn {α:Type} (E:Nat) (a:RR α):Prop:=match a with | .error e=>e.2≤E∧e.1≠0 | .ok y=>y.2≤E
structure TokE (T:zg) (E:Nat):Prop where
 ok:∀p x q,T p=.ok (x,q)→q≤E
 error:∀p c,T p=.error c→c≠0
theorem jx {α β:Type} {E:Nat} {a:RR α} {f:α→Nat→RR β} (h:jn E a) (hf:∀x q,q≤E→jn E (f x q)):jn E (thn a f):=by
 cases a with
 | error e=>exact h
 | ok y=>exact hf y.1 y.2 h
theorem zaw {α:Type} {E:Nat} {c:Prop} [Decidable c] {a b:RR α} (h1:jn E a) (h2:jn E b):jn E (if c then a else b):=by split <;> assumption
variable {T:zg} {E:Nat}
theorem zb4 (h:TokE T E) {p:Nat} (hp:p≤E):jn E (nmP T p):=by
 unfold nmP
 cases hT:T p with
 | error c=>exact⟨hp,h.error p c hT⟩
 | ok y=>exact h.ok p y.1 y.2 hT
theorem zei (h:TokE T E) (lim:Int) {p:Nat} (hp:p≤E):jn E (yz T E lim p):=jx (zb4 h hp) fun x q hq=>by
 split
 · exact hq
 · rename_i h1;exact⟨hp,h1⟩
theorem zta (h:TokE T E) (lo:Nat) {q:Nat} (hq:q≤E):jn E (hiP T lo q):=jx (zb4 h hq) fun x r hr=>zaw hr ⟨hq,by simp⟩
theorem ztb (lo:Nat) {q r:Nat} {s:Iv×Nat} (h:hiP T lo q=.ok (s,r)):s.2=q:=by
 unfold hiP at h;obtain⟨x,r',-,h2⟩:=y7 h;split at h2
 · cases h2;rfl
 · cases h2
theorem zk0 (h:TokE T E) (prev:Option Nat) (a:Nat) {p:Nat} (hp:p≤E):jn E (ivP T prev a p):=jx (zb4 h hp) fun x q hq=>by
 cases loP prev a x with
 | none=>exact⟨hp,by simp⟩
 | some lo=>exact zta h lo hq
theorem ztc (h:TokE T E) {prev:Option Nat} {a p r:Nat} {s:Iv×Nat} (hv:ivP T prev a p=.ok (s,r)):s.2≤E:=by
 unfold ivP at hv;obtain⟨x,q,h1,h2⟩:=y7 hv
 cases hlo:loP prev a x with
 | none=>rw[hlo] at h2;cases h2
 | some lo=>rw[hlo] at h2;rw[ztb lo h2];exact h.ok _ _ _ (zau h1)
theorem ztd {α β:Type} {a:RR α} {f:α→Nat→RR β} (h:jn E a) (hf:∀x q,a=.ok (x,q)→q≤E→jn E (f x q)):jn E (thn a f):=by
 cases a with
 | error e=>exact h
 | ok y=>exact hf y.1 y.2 rfl h
theorem zk1 (h:TokE T E) (mx:Nat):∀n acc {p:Nat},p≤E→jn E (qs T mx n acc p)
 | 0,acc,p,hp=>hp
 | n+1,acc,p,hp=>by
   rw[qs];refine ztd (zk0 h _ _ hp) fun s q hs hq=>?_
   unfold kp;exact zaw ⟨ztc h hs,by simp⟩ (zk1 h mx n _ hq)
theorem zk2 (h:TokE T E) (lim:Int):∀n acc {p:Nat},p≤E→jn E (yv T E lim n acc p)
 | 0,acc,p,hp=>hp
 | n+1,acc,p,hp=>by
   rw[yv];refine jx (jx (zb4 h hp) fun x q hq=>?_) fun e q hq=>zk2 h lim n _ hq
   cases jk acc x with
   | none=>exact⟨hp,by simp⟩
   | some r=>exact jx (zb4 h hq) fun mx q hq=>jx (zei h lim hq) fun n q hq=>jx (zk1 h mx n [] hq) fun _ _ hq=>hq
theorem zk3 (h:TokE T E) (le lh:Int):∀n acc {p:Nat},p≤E→jn E (yw T E le lh n acc p)
 | 0,acc,p,hp=>hp
 | n+1,acc,p,hp=>by
   rw[yw];refine jx (jx (zei h le hp) fun n q hq=>zaw ⟨hp,by simp⟩ (zk2 h lh n [] hq)) fun v q hq=>zaw ⟨hp,by simp⟩ (zk3 h le lh n _ hq)
theorem zk4 (h:TokE T E) (N:Nat):∀m l ix {p:Nat},p≤E→jn E (yq T N m l ix p)
 | 0,l,ix,p,hp=>hp
 | m+1,l,ix,p,hp=>by
   rw[yq];refine jx (zk0 h _ _ hp) fun s q hq=>jx (zb4 h hq) fun x r hr=>zaw ⟨hq,by simp⟩ (zaw ⟨hq,by simp⟩ (zk4 h N m _ _ hr))
theorem zk5 (h:TokE T E) (L:za) {p:Nat} (hp:p≤E):jn E (yl T E L p):=
 jx (zei h _ hp) fun n q hq=>jx (zk3 h _ _ n [] hq) fun vs q hq=>jx (zei h _ hq) fun m q hq=>jx (zk4 h _ m [] [] hq) fun s q hq=>zaw ⟨hq,by simp⟩ (zaw ⟨hq,by simp⟩ hq)
theorem zte {l:List Nat} (hl:∀c∈l,c<256):Fwd (yx l):=fun p x q h=>(zas hl h).1
theorem ztf {l:List Nat} (hl:∀c∈l,c<256):T64 (yx l):=fun p x q h=>(zas hl h).2.2.1
theorem zk6 {l:List Nat} (hl:∀c∈l,c<256):TokE (yx l) l.length:=⟨fun p x q h=>(zas hl h).2.1,fun p c h=>by
 unfold yx at h;split at h
 · cases h
 · cases h;decide
 · cases h;decide⟩
def kf (L:za) (l:List Nat):RR Kno:=yl (yx l) l.length L 0
theorem ztg (ns:List Nat):∀c∈y9 ns,c<256:=fun c hc=>by
 unfold y9 at hc;obtain⟨x,-,hx⟩:=List.mem_flatMap.1 hc;exact zgm x c hx
theorem zth {L:za} {c:Kno} (hc:CanK c) (hK:EncK c) (t:List Nat) (ht:∀x∈t,x<256):
 (okK L c→kf L (y9 (qi c)++t)=if 0<t.length then .error (11,(y9 (qi c)).length) else .ok (c,(y9 (qi c)).length))∧(¬okK L c→∃w,kf L (y9 (qi c)++t)=.error (7,w)):=by
 have hl:∀x∈y9 (qi c)++t,x<256:=fun x hx=>by
  rcases List.mem_append.1 hx with h | h
  · exact ztg _ x h
  · exact ht x h
 have hr:=zi9 (l:=y9 (qi c)++t) (ns:=qi c) (t:=t) (p:=0) (zqo hK) rfl;rw[Nat.zero_add] at hr;obtain⟨h1,h2⟩:=zsk (E:=(y9 (qi c)++t).length) (L:=L) (zte hl) hc hK.lt hr (by rw[List.length_append];omega);refine⟨fun h=>?_,h2⟩;unfold kf;rw[h1 h,List.length_append];by_cases h0:0<t.length
 · rw[if_pos h0,if_pos (by omega)]
 · rw[if_neg h0,if_neg (by omega)]
theorem zti {L:za} {l:List Nat} (hl:∀c∈l,c<256) {c:Kno} {q:Nat} (h:kf L l=.ok (c,q)):CanK c∧LtK c∧okK L c∧y9 (qi c)=l∧q=l.length:=by
 obtain⟨h1,h2,h3,h4,h5⟩:=zky (ztf hl) h
 have hq:q=l.length:=by
  have:=zk5 (zk6 hl) L (p:=0) (Nat.zero_le _);have e:yl (yx l) l.length L 0=.ok (c,q):=h;rw[e] at this;exact Nat.le_antisymm this h5
 refine⟨h1,h2,h3,?_,hq⟩;have:=zfx hl h4;rw[hq,List.drop_length,List.append_nil] at this;exact this.symm
theorem zu2 {L:za} {l:List Nat} (hl:∀c∈l,c<256) {e:Nat×Nat} (h:kf L l=.error e):e.2≤l.length∧e.1≠0:=by
 have:=zk5 (zk6 hl) L (p:=0) (Nat.zero_le _);have e':yl (yx l) l.length L 0=.error e:=h;rw[e'] at this;exact this
abbrev unl:za:=(9223372036854775807,9223372036854775807,9223372036854775807,9223372036854775807,9223372036854775807)
theorem zej {n:Nat} (h:n≤100000):okC n 9223372036854775807:=.inl (by omega)
theorem ztj {c:Kno} (hK:EncK c):(zd c).length≤1000:=by
 have h2:=zfm c c.length (Nat.le_refl _);rw[List.take_length] at h2;have:=hK.sum;unfold zd;omega
theorem zk7 {c:Kno} (hK:EncK c):okK unl c:=
 ⟨zej (by have:=hK.len;omega),fun i hi=>⟨zej (by have:=(hK.vec _ (jh hi)).len;omega),fun j hj=>zej (by have:=(hK.vec _ (jh hi)).holes _ (zcn hj);omega)⟩,zej (by have:=ztj hK;omega)⟩
theorem zk8 {c:Kno} (hK:EncK c) {L:za} (h:okK L c):kf L (y9 (qi c))=.ok (c,(y9 (qi c)).length):=by
 have:=(zth (L:=L) hK.can hK [] (fun x hx=>(by cases hx))).1 h;rw[List.append_nil] at this;exact this
theorem zu3 {a b:Kno} (ka:EncK a) (kb:EncK b) (h:y9 (qi a)=y9 (qi b)):a=b:=by
 have h1:=zk8 ka (zk7 ka);have h2:=zk8 kb (zk7 kb);rw[h,h2] at h1;injection h1 with h1;injection h1 with h1 _;exact h1.symm
theorem zek:∀(l:List Nat) (n j x:Nat),zk (l.take n) j x=zk l j x∨(zk (l.take n) j x).1=0
 | [],n,j,x=>by rw[List.take_nil];exact .inl rfl
 | c :: l,0,j,x=>.inr rfl
 | c :: l,n+1,j,x=>by
   rw[List.take_succ_cons,zk,zk];split
   · exact .inl rfl
   · split
     · exact .inl rfl
     · exact zek l n _ _
theorem ztk (l:List Nat) (n p:Nat):yx (l.take n) p=yx l p∨yx (l.take n) p=.error 5:=by
 unfold yx;rw[List.drop_take];rcases zek (l.drop p) (n - p) 0 0 with h | h
 · rw[h];exact .inl rfl
 · refine .inr ?_;generalize zk ((l.drop p).take (n - p)) 0 0=s at h;obtain⟨a,b,d⟩:=s;simp only at h;subst h
   rfl
theorem zu4 {L:za} {l:List Nat} (hl:∀c∈l,c<256) {c:Kno} {q n:Nat} (h:kf L l=.ok (c,q)) (hn:n<l.length):∃w,kf L (l.take n)=.error (5,w):=by
 obtain⟨-,-,-,-,hq⟩:=zti hl h;have hl':∀c∈l.take n,c<256:=fun c hc=>hl c (List.mem_of_mem_take hc)
 have e:(l.take n).length=n:=by rw[List.length_take];omega
 have:=zsx (T:=yx l) (T':=yx (l.take n)) (E:=l.length) (E':=n) ⟨fun p=>ztk l n p,.inr ⟨rfl,by omega⟩⟩ (fun p x q h=>by have:=(zas hl' h).2.1;omega) L (Nat.zero_le _) h (by omega);unfold kf;rw[e];exact this
end
section
open Go.RowKit
theorem ztl (w:World):Calls Tryz.prog 43 #[] w fun e w'=>e=.returned (lmV unl)∧Below w.heap.size w w':=by
 go_enter Tryz.func43,Tryz.ntmps43;go_wp2_with fail;refine bodyPost_ret (results_cell_row rfl _ _ w.heap.size 24 #[.int .i64 9223372036854775807,.int .i64 9223372036854775807,.int .i64 9223372036854775807,.int .i64 9223372036854775807,.int .i64 9223372036854775807] (0,0) _ rfl (heap_alloc_new w _) Tryz.underlying24 rfl (by kernel_rfl)) rfl ?_;exact⟨rfl,(Below.refl _ _).alloc (Nat.le_refl _) _⟩
theorem zk9:LimsI unl:=⟨⟨by decide,by decide⟩,⟨by decide,by decide⟩,⟨by decide,by decide⟩,⟨by decide,by decide⟩,⟨by decide,by decide⟩⟩
end
section
open Go.RowKit
attribute [local go_sem] qj
theorem wk0 {w:World} {base R U C:Nat} {L:za} (hR:Row w R 130 (wkC L (.iface 123 (.agg #[])) (.slice none 0 0) U C .nilIface)) (hU:UsedM w U []) (hC:Row w C 193 (ym C 0 0 none false)) (b1:base≤R) (b2:base≤U) (b3:base≤C):WkR w base R L ws0:=
 ⟨b1,_,_,U,C,b2,b3,hR,hU,rfl,zrh _ _,hC⟩
set_option maxRecDepth 20000 in
theorem ztm (L:za) (w:World):Calls Tryz.prog 25 #[lmV L] w fun e w'=>∃R,e=.returned (.pointer (some ⟨R,0,none⟩))∧WkR w' w.heap.size R L ws0∧Below w.heap.size w w':=by
 unfold lmV;have HS:=hid (fun W=>zja 0 W);have hmm:=@run_makeMap Tryz.prog;have hX:=yf w 24 [.int .i64 L.1,.int .i64 L.2.1,.int .i64 L.2.2.1,.int .i64 L.2.2.2.1,.int .i64 L.2.2.2.2];have HX:=hid hX
 have HLim:=hid (fun W W' (h1:Below (w.heap.size+1) (w.alloc (.cells #[.int .i64 L.1,.int .i64 L.2.1,.int .i64 L.2.2.1,.int .i64 L.2.2.2.1,.int .i64 L.2.2.2.2] 24)) W) (h2:Below W.heap.size W W')=>
  have h:=(hX.below h1 (by omega)).later h2
  And.intro (h.cell 0 rfl) (And.intro (h.cell 1 rfl) (And.intro (h.cell 2 rfl) (And.intro (h.cell 3 rfl) (h.cell 4 rfl)))))
 clear hX;go_enter Tryz.func25,Tryz.ntmps25;go_wp2;go_region_law (go_simp;go_at_call 68;refine(HS.out _).mono ?_;rintro e w1 ⟨rfl,hr1,hb1⟩;obtain⟨l0,l1,l2,l3,l4⟩:=HLim.out _ w1 (by repeat (first | exact Below.refl _ _ | refine Below.alloc ?_ (by simp) _ | refine Below.drew ?_ | refine zv ?_ _)) hb1;have ho:=fun o=>HLim.out _ (w1.alloc o) (by repeat (first | exact Below.refl _ _ | refine Below.alloc ?_ (by simp) _ | refine Below.drew ?_ | refine zv ?_ _)) (hb1.alloc hb1.size o);have o0:=fun o=>(ho o).1;have o1:=fun o=>(ho o).2.1;have o2:=fun o=>(ho o).2.2.1;have o3:=fun o=>(ho o).2.2.2.1;have o4:=fun o=>(ho o).2.2.2.2;clear ho;have Hr1:=hid hr1;have Hb1:=hid hb1;clear hr1 hb1)
 all_goals go_wp2
 all_goals go_ret
 all_goals clear HLim HX HS hmm l0 l1 l2 l3 l4 o0 o1 o2 o3 o4
 all_goals first
  | (have hb:=Hb1.out
     have hr:=Hr1.out
     have hU:UsedM w1 (w.heap.size+1) []:=by
      have h0:=zjk (w.alloc (.cells #[.int .i64 L.1,.int .i64 L.2.1,.int .i64 L.2.2.1,.int .i64 L.2.2.2.1,.int .i64 L.2.2.2.2] 24));rw[World.size_alloc] at h0;exact h0.same (hb.block _ (by simp))
     have hz:=hb.size;simp at hz;simp at hr;have hal:=(Below.refl w1.heap.size w1).alloc (Nat.le_refl _) (.cells #[.int .i64 L.1,.int .i64 L.2.1,.int .i64 L.2.2.1,.int .i64 L.2.2.2.1,.int .i64 L.2.2.2.2,.iface 123 (.agg #[]),.slice none 0 0,.map (some (w.heap.size+1)),.pointer (some ⟨w.heap.size+1+1,0,none⟩),.nilIface] 130)
     exact⟨_,rfl,wk0 (yf w1 _ _) (hU.same (hal.block _ hU.lt)) (hr.later hal) (by omega) (by omega) (by omega),(Below.trans (by repeat (first | exact Below.refl _ _ | refine Below.alloc ?_ (by simp) _ | refine Below.drew ?_ | refine zv ?_ _)) (hb.mono (by simp;omega))).trans (hal.mono (by omega))⟩)
  | (have hb:=Hb1.out
     have hr:=Hr1.out;have hz:=hb.size;simp at hr;simp at hz;have hU:UsedM (w1.alloc (.map #[] 0)) w1.heap.size []:=zjk w1;have hm:=(Below.refl w1.heap.size w1).alloc (Nat.le_refl _) (.map #[] 0);have hal:=(Below.refl (w1.alloc (.map #[] 0)).heap.size (w1.alloc (.map #[] 0))).alloc (Nat.le_refl _) (.cells #[.int .i64 L.1,.int .i64 L.2.1,.int .i64 L.2.2.1,.int .i64 L.2.2.2.1,.int .i64 L.2.2.2.2,.iface 123 (.agg #[]),.slice none 0 0,.map (some w1.heap.size),.pointer (some ⟨w.heap.size+1,0,none⟩),.nilIface] 130);have hrow:=yf (w1.alloc (.map #[] 0)) 130 [.int .i64 L.1,.int .i64 L.2.1,.int .i64 L.2.2.1,.int .i64 L.2.2.2.1,.int .i64 L.2.2.2.2,.iface 123 (.agg #[]),.slice none 0 0,.map (some w1.heap.size),.pointer (some ⟨w.heap.size+1,0,none⟩),.nilIface];rw[World.size_alloc] at hrow;exact⟨_,rfl,wk0 hrow (hU.same (hal.block _ hU.lt)) ((hr.later hm).later hal) (by omega) (by omega) (by omega),(Below.trans (by repeat (first | exact Below.refl _ _ | refine Below.alloc ?_ (by simp) _ | refine Below.drew ?_ | refine zv ?_ _)) (hb.mono (by simp))).trans ((hm.mono (by omega)).trans (hal.mono (by simp;omega)))⟩)
end
section
open Go.RowKit
attribute [local go_sem] qj
def jy (B:Nat):Value:=.iface 202 (.pointer (some ⟨B,0,none⟩))
structure SRows (w:World) (base R:Nat) (L:za) (part K:Value) (U C B:Nat) (S Cu:List Value) (ix:List Nat) (vs:List Vec) (l:List Iv):Prop where
 row:Row w R 130 (wkC L part K U C .nilIface)
 srow:Row w B 204 S
 cur:Row w C 193 Cu
 used:UsedM w U ix
 seg:SegM w base K vs l ix
section
variable {w w':World} {base R:Nat} {L:za} {part K:Value} {U C B:Nat} {S Cu:List Value} {ix:List Nat} {vs:List Vec} {l:List Iv}
theorem SRows.later (h:SRows w base R L part K U C B S Cu ix vs l) (hb:Below w.heap.size w w'):SRows w' base R L part K U C B S Cu ix vs l:=
 ⟨h.row.later hb,h.srow.later hb,h.cur.later hb,h.used.same (hb.block U h.used.lt),h.seg.later hb⟩
theorem SRows.setB (h:SRows w base R L part K U C B S Cu ix vs l) (i:Nat) (v:Value):SRows (w.setCell ⟨B,i,none⟩ v) base R L part K U C B (S.set i v) Cu ix vs l:=by
 have g:=jt w B i v;exact⟨h.row.grown g (fun e=>by injection e with e;exact h.row.ne h.srow (by decide) e),h.srow.set i v,h.cur.grown g (fun e=>by injection e with e;exact h.srow.ne h.cur (by decide) e.symm),h.used.grownT h.srow g,h.seg.grown (h.srow.notT (by rintro(h | h | h) <;> cases h)) g⟩
theorem SRows.curs (h:SRows w base R L part K U C B S Cu ix vs l) {Cu':List Value} (hc:Row w' C 193 Cu') (g:w.grownBy w' (some C)):SRows w' base R L part K U C B S Cu' ix vs l:=
 ⟨h.row.grown g (fun e=>by injection e with e;exact h.row.ne h.cur (by decide) e),h.srow.grown g (fun e=>by injection e with e;exact h.srow.ne h.cur (by decide) e),hc,h.used.grownT h.cur g,h.seg.grown (h.cur.notT (by rintro(h | h | h) <;> cases h)) g⟩
end
theorem SRows.wkr {w:World} {base R:Nat} {L:za} {K:Value} {U C B:Nat} {last:Int} {touch:Bool} {lo0:Nat} {s:WS} {Cu:List Value} (h:SRows w base R L (jy B) K U C B (sgC s.left s.turn last touch) Cu s.ix s.vs s.l) (ht:s.tag=3) (hR:base≤R) (hU:base≤U) (hC:base≤C) (hB:base≤B)
 (h1:∀x,s.ix.getLast?=some x→last=(x:Int)) (h2:1≤s.turn→touch=s.tch) (h3:Cu=cuC C lo0 s):WkR w base R L s:=by
 refine⟨hR,_,K,U,C,hU,hC,h.row,h.used,?_⟩;unfold WkB;simp only[ht];exact⟨B,rfl,hB,h.seg,last,touch,lo0,h.srow,h1,h2,by rw[←h3];exact h.cur⟩
def zla (s:WS) (p:Nat) (r:Option Nat):Except (Nat×Nat) WS:=match r with | none=>.error (8,p) | some lo=>.ok { s with turn:=1,lo:=lo,tch:=kq s.l lo }
theorem ztn {l:List Iv} {x z:Nat} (h:loP (yk l) 0 x=some z):kq l z=(l.getLast?.isSome && decide (x=0)):=by
 unfold kq yk at*
 cases hg:l.getLast? with
 | none=>rfl
 | some t=>
  rw[hg] at h;simp only[Option.map,loP] at h;split at h
  · injection h with h;subst h;simp only[Option.map,Option.isSome,Bool.true_and];rw[Bool.eq_iff_iff];simp only[decide_eq_true_eq];omega
  · cases h
set_option maxRecDepth 100000 in
theorem zto (base R:Nat) (L:za) (s:WS) (K:Value) (U C B rest x p lo0:Nat) (last:Int) (touch:Bool) (w0 w:World) (ht:s.tag=3) (hR0:base≤R) (hU:base≤U) (hC:base≤C) (hB0:base≤B) (hb0:Below base w0 w) (htu:s.turn=0)
 (hS:SRows w base R L (jy B) K U C B (sgC s.left 0 last touch) (ym C 0 lo0 s.l.getLast? false) s.ix s.vs s.l) (hla:∀x,s.ix.getLast?=some x→last=(x:Int)) (hl:yg s.l) (hx:x<18446744073709551616) (r:Option Nat) (hr:loP (yk s.l) 0 x=r):
 Calls Tryz.prog 113 #[.pointer (some ⟨R,0,none⟩),.pointer (some ⟨B,0,none⟩),.int .u64 (x:Int),.int .i64 (p:Int),.int .i64 (rest:Int)] w (WkS w0 base R L (zla s p r)):=by
 have Ht:=hid ht;have Htu:=hid htu;have Hla:=hid hla;have Hx:=hid hx;have Hl:=hid hl;have Htc:=hid (fun z (h:r=some z)=>ztn (hr.trans h));have Hr:=hid hr;have HS:=hid hS;have Hb0:=hid hb0;have HLa:=hid (zjn C 0 lo0 s.l.getLast? false w hS.cur);have hbw:base≤w.heap.size:=by have:=hS.row.lt;omega
 have Hbw:=hid hbw;have q8:=hS.row.cell 8 rfl;have v1:w.cell? ⟨B,1,none⟩=some (.int .i64 0):=hS.srow.cell 1 rfl;clear ht htu hla hx hl hr hS hb0 hbw;generalize hg:s.l.getLast?.isSome=b at*;have Hg:=hid hg;clear hg;generalize hz:s.l.getLast?.getD (0,0)=z0 at*;clear hz;obtain⟨z1,z2⟩:=z0;unfold ivV at HLa;simp only at HLa
 cases r with
 | none=>
  have HN:=hid (fun W=>vd (c:=8) (o:=p) (by decide) W);cases b
  all_goals
   by_cases hx0:x=0
  all_goals
   have hx1:((x:Int) == 0)=decide (x=0):=by
    rw[Bool.eq_iff_iff,beq_iff_eq,decide_eq_true_iff];omega
   first
    | rw[decide_eq_true hx0] at hx1
    | rw[decide_eq_false hx0] at hx1
   have Hx0:=hid (show decide (x=0)=decide (x=0) from rfl)
   first
    | rw[show decide (x=0)=true from decide_eq_true hx0] at Htc
    | rw[show decide (x=0)=false from decide_eq_false hx0] at Htc
   clear hx0 Hx0;go_enter Tryz.func113,Tryz.ntmps113;go_wp2_with fail;refine HLa.out.mono ?_;rintro e w1 ⟨rfl,hb1⟩;have hS1:=(HS.out.later hb1).later ((Below.refl w1.heap.size w1).alloc (Nat.le_refl _) (.cells #[.int .u64 (z1:Int),.int .u64 (z2:Int)] 89));have s3:=hS1.srow.cell 3 rfl;have y3:=hS1.srow.fz 3;have HS2:=hid (fun tv=>show SRows ((w1.alloc (.cells #[.int .u64 (z1:Int),.int .u64 (z2:Int)] 89)).setCell ⟨B,3,none⟩ (.bool tv)) base R L (jy B) K U C B (sgC s.left 0 last tv) (ym C 0 lo0 s.l.getLast? false) s.ix s.vs s.l from hS1.setB 3 (.bool tv));have HLo:=hid (fun tv=>zfy C 0 lo0 x s.l.getLast? _ (HS2.out tv).cur (fun t ht=>(Hl.out t (List.mem_of_getLast? ht)).2) (by omega) Hx.out);have Hb2:=hid (fun tv=>Hb0.out.trans (((hb1.mono Hbw.out).trans ((Below.refl base w1).alloc (Nat.le_trans Hbw.out hb1.size) (.cells #[.int .u64 (z1:Int),.int .u64 (z2:Int)] 89))).setCell (p:=⟨B,3,none⟩) hB0 (.bool tv)));have p8:=hS1.row.cell 8 rfl;have hneB:=hS1.row.ne hS1.srow (by decide);clear hb1 hS1 q8 v1;unfold yk at Hr;rw[Hr.out] at HLo;go_wp2_with fail;refine(HLo.out _).mono ?_;rintro e w3 ⟨rfl,hc3,hg3⟩;have HS3:=hid ((HS2.out _).curs hc3 hg3);have Hb3:=hid ((Hb2.out _).grown hg3 (Nat.le_trans hR0 (Nat.le_of_lt (HS2.out _).row.lt)) (fun k hk=>by injection hk with hk;omega));clear hc3 hg3 s3 y3;go_wp2_with fail;refine(HN.out _).mono ?_;rintro e w' ⟨rfl,rfl⟩;go_wp2_with fail;go_ret
   exact⟨Hb3.out,rfl,_,HS3.out.row,rfl⟩
 | some z=>
  have Htz:=hid (Htc.out z rfl);cases b
  all_goals
   by_cases hx0:x=0
  all_goals
   have hx1:((x:Int) == 0)=decide (x=0):=by
    rw[Bool.eq_iff_iff,beq_iff_eq,decide_eq_true_iff];omega
   first
    | rw[decide_eq_true hx0] at hx1
    | rw[decide_eq_false hx0] at hx1
   have Hx0:=hid (show decide (x=0)=decide (x=0) from rfl)
   first
    | rw[show decide (x=0)=true from decide_eq_true hx0] at Htz
    | rw[show decide (x=0)=false from decide_eq_false hx0] at Htz
   clear hx0 Hx0;go_enter Tryz.func113,Tryz.ntmps113;go_wp2_with fail;refine HLa.out.mono ?_;rintro e w1 ⟨rfl,hb1⟩;have hS1:=(HS.out.later hb1).later ((Below.refl w1.heap.size w1).alloc (Nat.le_refl _) (.cells #[.int .u64 (z1:Int),.int .u64 (z2:Int)] 89));have s3:=hS1.srow.cell 3 rfl;have y3:=hS1.srow.fz 3;have HS2:=hid (fun tv=>show SRows ((w1.alloc (.cells #[.int .u64 (z1:Int),.int .u64 (z2:Int)] 89)).setCell ⟨B,3,none⟩ (.bool tv)) base R L (jy B) K U C B (sgC s.left 0 last tv) (ym C 0 lo0 s.l.getLast? false) s.ix s.vs s.l from hS1.setB 3 (.bool tv));have HLo:=hid (fun tv=>zfy C 0 lo0 x s.l.getLast? _ (HS2.out tv).cur (fun t ht=>(Hl.out t (List.mem_of_getLast? ht)).2) (by omega) Hx.out);have Hb2:=hid (fun tv=>Hb0.out.trans (((hb1.mono Hbw.out).trans ((Below.refl base w1).alloc (Nat.le_trans Hbw.out hb1.size) (.cells #[.int .u64 (z1:Int),.int .u64 (z2:Int)] 89))).setCell (p:=⟨B,3,none⟩) hB0 (.bool tv)));have p8:=hS1.row.cell 8 rfl;have hneB:=hS1.row.ne hS1.srow (by decide);clear hb1 hS1 q8 v1;unfold yk at Hr;rw[Hr.out] at HLo;go_wp2_with fail;refine(HLo.out _).mono ?_;rintro e w3 ⟨rfl,hc3,hg3⟩;have hS3:=(HS2.out _).curs hc3 hg3;have t1:w3.cell? ⟨B,1,none⟩=some (.int .i64 0):=hS3.srow.cell 1 rfl;have y1:=hS3.srow.fz 1;have HS4:=hid (hS3.setB 1 (.int .i64 1));have Hb3:=hid (((Hb2.out _).grown hg3 (Nat.le_trans hR0 (Nat.le_of_lt (HS2.out _).row.lt)) (fun k hk=>by injection hk with hk;omega)).setCell (p:=⟨B,1,none⟩) hB0 (.int .i64 1));clear hc3 hg3 s3 y3 hS3;go_wp2_with fail;go_ret;exact⟨Hb3.out,rfl,SRows.wkr (lo0:=0) (s:={ s with turn:=1,lo:=z,tch:=kq s.l z }) HS4.out Ht.out hR0 hU hC hB0 Hla.out (fun _=>by rw[Htz.out];rfl) rfl⟩
def zel (s:WS) (p x:Nat):Except (Nat×Nat) WS:=if s.lo+x<18446744073709551616 then .ok { s with turn:=2,hi:=s.lo+x } else .error (8,p)
set_option maxRecDepth 100000 in
theorem ztp (base R:Nat) (L:za) (s:WS) (K:Value) (U C B rest x p:Nat) (last:Int) (touch:Bool) (w0 w:World) (ht:s.tag=3) (hR0:base≤R) (hU:base≤U) (hC:base≤C) (hB0:base≤B) (hb0:Below base w0 w)
 (hS:SRows w base R L (jy B) K U C B (sgC s.left 1 last touch) (ym C 0 s.lo s.l.getLast? true) s.ix s.vs s.l) (hla:∀x,s.ix.getLast?=some x→last=(x:Int)) (hto:touch=s.tch) (hlo:s.lo<18446744073709551616) (hx:x<18446744073709551616):
 Calls Tryz.prog 113 #[.pointer (some ⟨R,0,none⟩),.pointer (some ⟨B,0,none⟩),.int .u64 (x:Int),.int .i64 (p:Int),.int .i64 (rest:Int)] w (WkS w0 base R L (zel s p x)):=by
 have Ht:=hid ht;have Hla:=hid hla;have Hto:=hid hto;have HS:=hid hS;have Hb0:=hid hb0;have HHi:=hid (zjm C 0 s.lo x s.l.getLast? w hS.cur hlo hx);have Hbw:=hid (show base≤w.heap.size by have:=hS.row.lt;omega);have q8:=hS.row.cell 8 rfl;have v1:w.cell? ⟨B,1,none⟩=some (.int .i64 1):=hS.srow.cell 1 rfl;clear ht hla hto hS hb0 hlo hx;unfold zcy at HHi;by_cases hc:s.lo+x<18446744073709551616
 · have HHi2:=hid (HHi.out.mono fun e w' h=>by rw[if_pos hc] at h;exact h);have Hv:=hid (show zel s p x=.ok { s with turn:=2,hi:=s.lo+x } from if_pos hc);clear HHi hc;generalize hz:s.lo+x=z at*;clear hz;unfold ivV at HHi2;go_enter Tryz.func113,Tryz.ntmps113;go_wp2_with fail;refine HHi2.out.mono ?_;rintro e w1 ⟨rfl,hc1,hg1⟩;have hS1:=((HS.out).curs hc1 hg1).later ((Below.refl w1.heap.size w1).alloc (Nat.le_refl _) (.cells #[.int .u64 (s.lo:Int),.int .u64 (z:Int)] 89));have Hb1:=hid (((Hb0.out.grown hg1 (Nat.le_trans (by have:=Hb0.out.size;have:=Hbw.out;exact this) (Nat.le_refl _)) (fun k hk=>by injection hk with hk;omega)).alloc (by have:=Hbw.out;have:=hg1.size;omega) (.cells #[.int .u64 (s.lo:Int),.int .u64 (z:Int)] 89)).setCell (p:=⟨B,1,none⟩) hB0 (.int .i64 2));have t1:∀o,(w1.alloc o).cell? ⟨B,1,none⟩=some (.int .i64 1):=fun o=>(((HS.out).curs hc1 hg1).later ((Below.refl w1.heap.size w1).alloc (Nat.le_refl _) o)).srow.cell 1 rfl
   have y1:∀o,(w1.alloc o).frozen? ⟨B,1,none⟩=false:=fun o=>(((HS.out).curs hc1 hg1).later ((Below.refl w1.heap.size w1).alloc (Nat.le_refl _) o)).srow.fz 1
   have HS4:=hid (hS1.setB 1 (.int .i64 2));clear hc1 hg1 hS1 q8 v1;go_wp2_with fail;go_ret;exact⟨Hb1.out,by rw[Hv.out];exact⟨rfl,SRows.wkr (lo0:=s.lo) (s:={ s with turn:=2,hi:=z }) HS4.out Ht.out hR0 hU hC hB0 Hla.out (fun _=>Hto.out) rfl⟩⟩
 · have HHi2:=hid (HHi.out.mono fun e w' h=>by rw[if_neg hc] at h;exact h);have Hv:=hid (show zel s p x=.error (8,p) from if_neg hc);have HN:=hid (fun W=>vd (c:=8) (o:=p) (by decide) W);clear HHi hc;unfold ivV at HHi2;go_enter Tryz.func113,Tryz.ntmps113;go_wp2_with fail;refine HHi2.out.mono ?_;rintro e w1 ⟨rfl,hc1,hg1⟩;have HS1:=hid (fun o=>((HS.out).curs hc1 hg1).later ((Below.refl w1.heap.size w1).alloc (Nat.le_refl _) o));have Hb1:=hid (fun o=>(Hb0.out.grown hg1 (by have:=Hbw.out;exact this) (fun k hk=>by injection hk with hk;omega)).alloc (by have:=Hbw.out;have:=hg1.size;omega) o);clear hc1 hg1 q8 v1;go_wp2_with fail;refine(HN.out _).mono ?_;rintro e w' ⟨rfl,rfl⟩;go_wp2_with fail;go_ret;exact⟨Hb1.out _,by rw[Hv.out];exact⟨rfl,_,(HS1.out _).row,rfl⟩⟩
end
section
def yd (l:List Nat) (p:Nat) (most:Int):Except (Nat×Nat) (Nat×Nat):=
 match qg l p with
 | some e=>.error e
 | none=>match zk (l.drop (p+5)) 0 0 with
   | (1,x,j)=>if max most 0<(x:Int) then .error (7,p+5) else .ok (p+5+j,x)
   | (2,_,_)=>.error (6,p+5)
   | _=>.error (5,p)
theorem ztq (l:List Nat) (p:Nat) (most:Int):qk l p most=match yd l p most with | .error e=>(0,0,some ((e.1:Int),some (e.2:Int))) | .ok y=>(y.1,y.2,none):=by
 unfold qk yd
 cases qg l p with
 | some e=>rfl
 | none=>
  simp only;generalize zk (l.drop (p+5)) 0 0=s;obtain⟨a,x,j⟩:=s;rcases a with _ | _ | _ | a
  · rfl
  · simp only;split <;> rfl
  · rfl
  · rfl
def zn (l:List Nat) (L:za) (p:Nat):RR Kno:=
 match yd l p L.1 with
 | .error e=>if e.1=5 then .error (0,p) else .error e
 | .ok y=>match yl (zq l (y.1+y.2)) (y.1+y.2) L y.1 with
   | .error e=>if e.1=0 then .error (0,p) else .error e
   | .ok k=>if l.length<y.1+y.2+4 then .error (0,p)
     else if qo (sum ((l.drop y.1).take y.2))=(l.drop (y.1+y.2)).take 4 then .ok (k.1,y.1+y.2+4) else .error (14,y.1+y.2)
def jz (l:List Nat) (L:za):List Kno→List Nat→Nat→Nat→Prop
 | [],[],p,q=>p=q
 | k :: ks,e :: es,p,q=>zn l L p=.ok (k,e)∧jz l L ks es e q
 | _,_,_,_=>False
def jb (l:List Nat) (L:za) (ks:List Kno) (es:List Nat) (e:Nat×Nat):Prop:=∃q,jz l L ks es 0 q∧zn l L q=.error e
theorem zgc {l:List Nat} {L:za} {k:Kno} {r:Nat}:∀{ks:List Kno} {es:List Nat} {p q:Nat},jz l L ks es p q→zn l L q=.ok (k,r)→jz l L (ks++[k]) (es++[r]) p r
 | [],[],p,q,h,h1=>by
   have h:p=q:=h;subst h
   exact⟨h1,rfl⟩
 | k' :: ks,e :: es,p,q,h,h1=>⟨h.1,zgc h.2 h1⟩
 | [],_ :: _,_,_,h,_=>h.elim
 | _ :: _,[],_,_,h,_=>h.elim
theorem zlb {l:List Nat} {L:za}:∀{ks:List Kno} {es:List Nat} {p q:Nat},jz l L ks es p q→ks.length=es.length
 | [],[],p,q,h=>rfl
 | k' :: ks,e :: es,p,q,h=>by rw[List.length_cons,List.length_cons,zlb h.2]
 | [],_ :: _,_,_,h=>h.elim
 | _ :: _,[],_,_,h=>h.elim
theorem zgd {l:List Nat} {L:za} {e:Nat×Nat}:∀{ks ks':List Kno} {es es':List Nat} {p q q':Nat},jz l L ks es p q→jz l L ks' es' p q'→zn l L q'=.error e→∃ms fs,ks'=ks++ms∧es'=es++fs∧jz l L ms fs q q'
 | [],ks',[],es',p,q,q',h,h',h1=>by
   have h:p=q:=h;subst h
   exact⟨ks',es',rfl,rfl,h'⟩
 | k :: ks,[],x :: es,[],p,q,q',h,h',h1=>by
   have h':p=q':=h';subst h';rw[h.1] at h1
   cases h1
 | k :: ks,k' :: ks',x :: es,x' :: es',p,q,q',h,h',h1=>by
   have e1:=h.1.symm.trans h'.1;injection e1 with e1;injection e1 with e1 e2;subst e1 e2;obtain⟨ms,fs,a,b,c⟩:=zgd h.2 h'.2 h1
   exact⟨ms,fs,by rw[a];rfl,by rw[b];rfl,c⟩
 | [],_,_ :: _,_,_,_,_,h,_,_=>h.elim
 | _ :: _,_,[],_,_,_,_,h,_,_=>h.elim
 | _ :: _,[],_ :: _,_ :: _,_,_,_,_,h,_=>h.elim
 | _ :: _,_ :: _,_ :: _,[],_,_,_,_,h,_=>h.elim
theorem zc4 {l:List Nat} {L:za} {ks ks':List Kno} {es es':List Nat} {e e':Nat×Nat} (h:jb l L ks es e) (h':jb l L ks' es' e'):ks'=ks∧es'=es∧e'=e:=by
 obtain⟨q,a,b⟩:=h;obtain⟨q',a',b'⟩:=h';obtain⟨ms,fs,e1,e2,c⟩:=zgd a a' b'
 cases ms with
 | nil=>
  cases fs with
  | nil=>
   have c:q=q':=c;subst c;rw[b] at b';injection b' with b'
   exact⟨by rw[e1,List.append_nil],by rw[e2,List.append_nil],b'.symm⟩
  | cons _ _=>exact c.elim
 | cons m ms=>
  cases fs with
  | nil=>exact c.elim
  | cons f fs=>
   have:=c.1;rw[b] at this;cases this
theorem zbf {l:List Nat} (hl:∀c∈l,c<256) {p s n:Nat} {most:Int} (h:yd l p most=.ok (s,n)):p+6≤s∧s≤l.length∧s≤p+15∧(n:Int)≤max most 0∧qg l p=none∧s=p+5+(zo n).length∧zo n=(l.drop (p+5)).take (zo n).length:=by
 unfold yd at h
 cases hb:qg l p with
 | some e=>rw[hb] at h;cases h
 | none=>
  rw[hb] at h;simp only at h;obtain⟨a,x,j,hs⟩:∃a x j,zk (l.drop (p+5)) 0 0=(a,x,j):=⟨_,_,_,rfl⟩;rw[hs] at h;rcases a with _ | _ | _ | a
  · cases h
  · simp only at h;split at h
    · cases h
    · injection h with h;injection h with h1 h2;subst h1 h2;obtain⟨b1,b2,b3,b4⟩:=zi8 (fun c hc=>hl c (List.mem_of_mem_drop hc)) hs;have b5:(zo x).length≤9+1:=zca 9 x;have b6:(zo x).length=j:=by rw[b4,List.length_take];omega
      rw[List.length_drop] at b3;exact⟨by omega,by omega,by omega,by omega,rfl,by rw[b6],by rw[b6];exact b4⟩
  · cases h
  · cases h
theorem ztr {l:List Nat} {p i:Nat} {e:Nat×Nat} (h:qq l p i=some e):(e=(5,p))∨(e=(if i=4 then 13 else 12,p+i)∧p+i<l.length):=by
 unfold qq at h;split at h
 · injection h with h;exact .inl h.symm
 · split at h
   · cases h
   · injection h with h;exact .inr ⟨h.symm,by omega⟩
theorem zlc {l:List Nat} {p:Nat} {most:Int} {e:Nat×Nat} (h:yd l p most=.error e):(e=(5,p))∨(e.1=6∧e.2=p+5)∨(e.1=7∧e.2=p+5)∨((e.1=12∨e.1=13)∧e.2<l.length):=by
 unfold yd at h
 cases hb:qg l p with
 | some x=>
  rw[hb] at h;injection h with h;subst h;unfold qg at hb;obtain⟨i,-,hi⟩:=List.exists_of_findSome?_eq_some hb;rcases ztr hi with rfl | ⟨rfl,h2⟩
  · exact .inl rfl
  · exact .inr (.inr (.inr ⟨by simp only;split <;> simp,h2⟩))
 | none=>
  rw[hb] at h;simp only at h;split at h
  · split at h
    · injection h with h;subst h;exact .inr (.inr (.inl ⟨rfl,rfl⟩))
    · cases h
  · injection h with h;subst h;exact .inr (.inl ⟨rfl,rfl⟩)
  · injection h with h;subst h;exact .inl rfl
theorem zts {l:List Nat} (hl:∀c∈l,c<256) (E:Nat):T64 (zq l E):=fun p x q h=>(zby hl h).2.2.2.1
theorem zld {T T':zg} (h:∀p y,T p=.ok y→T' p=.ok y):∀{ns:List Nat} {p q:Nat},zy T p ns q→zy T' p ns q
 | [],p,q,r=>r
 | x :: ns,p,q,r=>by
   obtain⟨y,r1,r2⟩:=r;exact⟨y,h _ _ r1,zld h r2⟩
theorem zge {T:zg} {E:Nat} (h:∀p x q,T p=.ok (x,q)→q≤E):∀{ns:List Nat} {p q:Nat},zy T p ns q→ns≠[]→q≤E
 | [],p,q,r,hn=>absurd rfl hn
 | x :: ns,p,q,r,hn=>by
   obtain⟨y,r1,r2⟩:=r
   cases ns with
   | nil=>have r2:y=q:=r2;rw[←r2];exact h _ _ _ r1
   | cons z ns=>exact zge h r2 (by simp)
theorem zle (c:Kno):qi c≠[]:=by
 intro h;have:=congrArg List.length h;unfold qi at this;rw[List.length_append] at this
 have h1:∀d,1≤(ju c d).length:=by
  intro d
  induction d with
  | zero=>simp[ju]
  | succ d ih=>rw[ju,List.length_append];omega
 have h2:=h1 c.length;rw[List.length_nil] at this;omega
theorem zlf {l:List Nat} (hl:∀c∈l,c<256) {E s q:Nat} {L:za} {k:Kno} (h:yl (zq l E) E L s=.ok (k,q)):q=E∧E≤l.length∧CanK k∧LtK k∧okK L k∧y9 (qi k)=(l.drop s).take (E - s):=by
 obtain⟨h1,h2,h3,h4,h5⟩:=zky (zts hl E) h;have h6:=zge (E:=E) (fun p x q h=>(zby hl h).2.2.1) h4 (zle k);have h7:=zge (E:=l.length) (fun p x q h=>(zby hl h).2.1) h4 (zle k);obtain rfl:q=E:=Nat.le_antisymm h6 h5;have h8:=zfx (l:=l.take q) (fun c hc=>hl c (List.mem_of_mem_take hc)) (zld (fun p y h=>zji h) h4);rw[show (l.take q).drop q=[] from List.drop_eq_nil_of_le (by rw[List.length_take];omega),List.append_nil,List.drop_take] at h8;exact⟨rfl,h7,h1,h2,h3,h8.symm⟩
theorem zlg {l:List Nat} (hl:∀c∈l,c<256) {L:za} {p q:Nat} {k:Kno} (h:zn l L p=.ok (k,q)):p+10≤q∧q≤l.length:=by
 unfold zn at h
 cases hh:yd l p L.1 with
 | error e=>rw[hh] at h;simp only at h;split at h <;> cases h
 | ok y=>
  obtain⟨s,n⟩:=y;rw[hh] at h;simp only at h;have:=zbf hl hh;split at h
  · split at h <;> cases h
  · split at h
    · cases h
    · split at h
      · injection h with h;injection h with h1 h2;omega
      · cases h
theorem zem {l:List Nat} {L:za} {p o:Nat} (h:zn l L p=.error (0,o)):o=p:=by
 unfold zn at h
 cases hh:yd l p L.1 with
 | error e=>
  rw[hh] at h;simp only at h;split at h
  · injection h with h;injection h with _ h;exact h.symm
  · injection h with h;subst h;rcases zlc hh with h | ⟨h,-⟩ | ⟨h,-⟩ | ⟨h | h,-⟩
    · cases h
    · cases h
    · cases h
    · cases h
    · cases h
 | ok y=>
  rw[hh] at h;simp only at h;split at h
  · split at h
    · injection h with h;injection h with _ h;exact h.symm
    · rename_i hne;injection h with h;rw[h] at hne;exact absurd rfl hne
  · split at h
    · injection h with h;injection h with _ h;exact h.symm
    · split at h
      · cases h
      · injection h with h;injection h with h _;cases h
theorem zgf {f g:Nat→Option (Nat×Nat)} {z:Nat×Nat} (h:∀i,f i=some z∨g i=f i):∀is:List Nat,is.findSome? f=some z∨is.findSome? g=is.findSome? f
 | []=>.inr rfl
 | i :: is=>by
   rw[List.findSome?_cons,List.findSome?_cons];rcases h i with e | e
   · rw[e];exact .inl rfl
   · rw[e]
     cases f i with
     | some x=>exact .inr rfl
     | none=>exact zgf h is
theorem zgg {l u:List Nat} {i:Nat} (h:i<l.length):nth (l++u) i=nth l i:=by simp[nth,List.getElem?_append_left h]
theorem zlh (l u:List Nat) (p i:Nat):qq l p i=some (5,p)∨qq (l++u) p i=qq l p i:=by
 by_cases h:l.length≤p+i
 · exact .inl (zcf h)
 · refine .inr ?_;unfold qq;rw[if_neg h,if_neg (by rw[List.length_append];omega),zgg (by omega)]
theorem ztt (l u:List Nat) (p:Nat):((l++u).drop p).take (l.length - p)=l.drop p:=by
 rw[←List.drop_take,List.take_left]
theorem zli (l u:List Nat) (p:Nat) (most:Int):yd l p most=.error (5,p)∨yd (l++u) p most=yd l p most:=by
 rcases zgf (zlh l u p) [0,1,2,3,4] with h | h
 · refine .inl ?_;unfold yd qg;rw[h]
 · have h:qg (l++u) p=qg l p:=h;unfold yd;rw[h]
   cases qg l p with
   | some e=>exact .inr rfl
   | none=>
    simp only;have hs:=zek ((l++u).drop (p+5)) (l.length - (p+5)) 0 0;rw[ztt] at hs;rcases hs with hs | hs
    · rw[hs];exact .inr rfl
    · refine .inl ?_;generalize zk (l.drop (p+5)) 0 0=s at hs;obtain⟨a,x,j⟩:=s;simp only at hs;subst hs
      rfl
theorem ztu (l u:List Nat) (E:Nat):Cut 0 (zq (l++u) E) (zq l E) E E:=by
 refine⟨fun p=>?_,.inl rfl⟩;by_cases hE:E≤l.length
 · refine .inl ?_;unfold zq;rw[List.take_append_of_le_length hE,if_pos hE,if_pos (by rw[List.length_append];omega)]
 · have hs:=zek (((l++u).take E).drop p) (l.length - p) 0 0;rw[←List.drop_take,List.take_take,Nat.min_eq_left (by omega),List.take_left] at hs;unfold zq;rw[List.take_of_length_le (show l.length≤E by omega),if_neg hE];generalize zk (l.drop p) 0 0=s at*;obtain⟨a,x,j⟩:=s;rcases hs with hs | hs
   · rw[←hs];rcases a with _ | _ | _ | a
     · exact .inr rfl
     · exact .inl rfl
     · exact .inl rfl
     · exact .inr rfl
   · simp only at hs;subst hs;exact .inr rfl
theorem zlj (l u:List Nat) (L:za) (p:Nat):zn l L p=.error (0,p)∨zn (l++u) L p=zn l L p:=by
 unfold zn;rcases zli l u p L.1 with h | h
 · rw[h];exact .inl rfl
 · rw[h]
   cases hh:yd l p L.1 with
   | error e=>exact .inr rfl
   | ok y=>
    obtain⟨s,n⟩:=y;simp only;rcases zsw (ztu l u (s+n)) L s with hd | ⟨w,hd⟩
    · rw[hd]
      cases yl (zq (l++u) (s+n)) (s+n) L s with
      | error e=>exact .inr rfl
      | ok k=>
       simp only;by_cases hlen:l.length<s+n+4
       · rw[if_pos hlen];exact .inl rfl
       · rw[if_neg hlen,if_neg (show ¬(l++u).length<s+n+4 by rw[List.length_append];omega)];refine .inr ?_
         have e1:((l++u).drop s).take n=(l.drop s).take n:=by
          rw[List.drop_append_of_le_length (by omega),List.take_append_of_le_length (by rw[List.length_drop];omega)]
         have e2:((l++u).drop (s+n)).take 4=(l.drop (s+n)).take 4:=by
          rw[List.drop_append_of_le_length (by omega),List.take_append_of_le_length (by rw[List.length_drop];omega)]
         rw[e1,e2]
    · rw[hd];exact .inl rfl
theorem zb5 {l:List Nat} (u:List Nat) {L:za}:∀{ks:List Kno} {es:List Nat} {p q:Nat},jz l L ks es p q→jz (l++u) L ks es p q
 | [],[],p,q,h=>h
 | k :: ks,e :: es,p,q,h=>by
   refine⟨?_,zb5 u h.2⟩;rcases zlj l u L p with h1 | h1
   · have:=h.1;rw[h1] at this;cases this
   · rw[h1];exact h.1
 | [],_ :: _,_,_,h=>h.elim
 | _ :: _,[],_,_,h=>h.elim
theorem ztv {l:List Nat} (u:List Nat) {L:za} {ks:List Kno} {es:List Nat} {e:Nat×Nat} (h:jb l L ks es e) (he:e.1≠0):jb (l++u) L ks es e:=by
 obtain⟨q,a,b⟩:=h;refine⟨q,zb5 u a,?_⟩;rcases zlj l u L q with h1 | h1
 · rw[b] at h1;injection h1 with h1;rw[h1] at he;exact absurd rfl he
 · rw[h1];exact b
theorem ztw {l u:List Nat} {L:za} {ks ks':List Kno} {es es':List Nat} {o:Nat} {e':Nat×Nat} (h:jb l L ks es (0,o)) (h':jb (l++u) L ks' es' e'):∃ms fs,ks'=ks++ms∧es'=es++fs∧∃q',jz (l++u) L ms fs o q'∧zn (l++u) L q'=.error e':=by
 obtain⟨q,a,b⟩:=h;obtain⟨q',a',b'⟩:=h';obtain rfl:=zem b;obtain⟨ms,fs,e1,e2,c⟩:=zgd (zb5 u a) a' b';exact⟨ms,fs,e1,e2,q',c,b'⟩
theorem zen {l:List Nat} (hl:∀c∈l,c<256) {L:za}:∀{ks:List Kno} {es:List Nat} {p q:Nat},jz l L ks es p q→p+10*ks.length≤q∧(p≤l.length→q≤l.length)
 | [],[],p,q,h=>by have h:p=q:=h;subst h;exact⟨Nat.le_refl _,fun h=>h⟩
 | k :: ks,e :: es,p,q,h=>by
   have h1:=zlg hl h.1;have h2:=zen hl h.2;rw[List.length_cons]
   exact⟨by omega,fun _=>h2.2 h1.2⟩
 | [],_ :: _,_,_,h=>h.elim
 | _ :: _,[],_,_,h=>h.elim
