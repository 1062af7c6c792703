/- Walks and laws, joined: Wb45. -/
import Derived.Test.YtdnjfnofjaoajaaGreatDoorWb25
set_option linter.unusedVariables false
set_option maxHeartbeats 16000000
namespace Go.Proofs.YtdnjfnofjaoajaaGreatDoor
open Lib (hid)
section
open Go.RowKit
theorem z91:∀(k x:Nat) (w:World),x<2 ^ (7*k+7)→x<18446744073709551616→k≤9→
 Calls Tryz.prog 62 #[.int .u64 x] w fun e w'=>∃v',e=.returned v'∧w'.ownsRow w.heap.size 5 1 v' (vbF k x).length (u8s (vbF k x))∧Below w.heap.size w w':=by
 intro k
 induction k with
 | zero=>
  intro x w hx h64 _;have h128:x<128:=by simpa using hx
  have ho:=World.ownsRow_lit (e:=5) (size:=1) (base:=w.heap.size) w #[.int .u8 (x:Int)] 1 (Nat.le_refl _) (by unfold maxLen;omega) rfl;have Ho:=hid ho;clear ho hx h64;have hlt:decide ((x:Int)<128)=true:=by rw[decide_eq_true_iff];omega
  have hm:((x:Int) % 256)=(x:Int):=by omega
  have He:=hid (show vbF 0 x=[x] from by simp[vbF];omega);go_enter Tryz.func62,Tryz.ntmps62;go_wp2_with fail;go_ret
  exact⟨_,rfl,by rw[He.out];exact Ho.out,(Below.refl _ _).alloc (Nat.le_refl _) _⟩
 | succ k ih=>
  intro x w hx h64 hk;by_cases h128:x<128
  · have ho:=World.ownsRow_lit (e:=5) (size:=1) (base:=w.heap.size) w #[.int .u8 (x:Int)] 1 (Nat.le_refl _) (by unfold maxLen;omega) rfl;have Ho:=hid ho;clear ho hx h64;have hlt:decide ((x:Int)<128)=true:=by rw[decide_eq_true_iff];omega
    have hm:((x:Int) % 256)=(x:Int):=by omega
    have He:=hid (show vbF (k+1) x=[x] from by rw[zcn,if_pos h128]);have Ih:=hid ih;clear ih;go_enter Tryz.func62,Tryz.ntmps62;go_wp2_with fail;go_ret;exact⟨_,rfl,by rw[He.out];exact Ho.out,(Below.refl _ _).alloc (Nat.le_refl _) _⟩
  · have hge:decide ((x:Int)<128)=false:=by rw[decide_eq_false_iff_not];omega
    have hd:x / 128<2 ^ (7*k+7):=by
     rw[show 7*(k+1)+7=(7*k+7)+7 from by omega,Nat.pow_add] at hx;generalize 2 ^ (7*k+7)=P at*;exact Nat.div_lt_of_lt_mul (by omega)
    have hq256:x % 128+128<256:=by omega
    have Hxd:=hid (show ((x:Int) / 128)=((x / 128:Nat):Int) from by omega);have He:=hid (show vbF (k+1) x=(x % 128+128) :: vbF k (x / 128) from by rw[zcn,if_neg h128]);have hl:=zhl k (x / 128);have Hl:=hid (zhk k (x / 128));have Ih:=hid (fun w=>ih (x / 128) w hd (by have:=Nat.div_le_self x 128;omega) (by omega));clear ih;have ho1:=World.ownsRow_lit (e:=5) (size:=1) (base:=w.heap.size) w #[.int .u8 ((x:Int) % 128+128)] 1 (Nat.le_refl _) (by unfold maxLen;omega) rfl;have Ho1:=hid ho1;clear ho1;clear hx hd;go_enter Tryz.func62,Tryz.ntmps62;go_wp2_with fail;rw[Hxd.out];refine(Ih.out _).mono ?_;rintro e w2 ⟨v2,rfl,ho2,hb2⟩;obtain⟨a2,c2,rfl,hB2⟩:=zek ho2 Hl.out;have h1':=zm Ho1.out hb2;have hbb:Below w.heap.size w w2:=((Below.refl _ _).alloc (Nat.le_refl _) _).trans (hb2.mono (by simp only[World.size_alloc];omega));obtain⟨v3,w3,hr3,ho3,hg3⟩:=zge w.heap.size _ 1 _ h1' a2 _ c2 _ hB2 (by omega) hbb.size;have Ho3:=hid ho3;have hb3:=hbb.grown hg3 hbb.size (by intro k hk;simp[Value.ownBlock] at hk;omega);clear hg3 hb2 ho2 hB2 h1' ho3 hbb;go_wp2_with (at_builtin;refine jf _ _ 27 rfl rfl _ _ rfl rfl _ _ hr3 ?_);go_ret;refine⟨_,rfl,?_,hb3⟩;have h4:=Ho3.out;rw[show ((x:Int) % 128+128)=((x % 128+128:Nat):Int) from by omega] at h4;rw[He.out,List.length_cons,Nat.add_comm];exact h4
end
section
theorem z92 {L:List Seg} {l:List Iv} {i j:Nat} (h:j<l.length):zal L (l.take (j+1)) i=zak (zal L (l.take j) i) (zb l j) i:=by
 unfold zal;rw[List.take_succ_eq_append_getElem h,List.foldl_append,qf h]
 rfl
end
section
open Go.RowKit
theorem zxp (L:List Seg) (s:Iv) (i:Nat):yd (zak L s i)=(yd L).take (zcw L s.1)++[s]++(yd L).drop (zcw L s.1):=by simp[yd,zak,List.map_take,List.map_drop]
theorem zxq (L:List Seg) (s:Iv) (i:Nat):yq (zak L s i)=(yq L).take (zcw L s.1)++[i]++(yq L).drop (zcw L s.1):=by simp[yq,zak,List.map_take,List.map_drop]
theorem zxr {L:List Seg} {x j:Nat} (h1:∀i,i<j→(zb (yd L) i).1<x) (hj:j≤L.length) (h2:j<L.length→¬(zb (yd L) j).1<x):j=zcw L x:=by
 induction L generalizing j with
 | nil=>simp at hj;subst hj;rfl
 | cons p L ih=>
  unfold zcw
  cases j with
  | zero=>
   have:=h2 (by simp);have e:(zb (yd (p :: L)) 0).1=p.1.1:=rfl;rw[e] at this;rw[List.takeWhile_cons_of_neg (by simpa using this)]
   rfl
  | succ j=>
   have:=h1 0 (by omega);have e:(zb (yd (p :: L)) 0).1=p.1.1:=rfl;rw[e] at this;rw[List.takeWhile_cons_of_pos (by simpa using this),List.length_cons];have e2:∀i,zb (yd (p :: L)) (i+1)=zb (yd L) i:=fun i=>rfl
   have:=ih (j:=j) (fun i hi=>by have:=h1 (i+1) (by omega);rwa [e2] at this) (by simpa using hj) (fun hl=>by have:=h2 (by simpa using hl);rwa [e2] at this);unfold zcw at this;omega
theorem zef {w:World} {ops:Array Oper} {o:Oper} {a:Act} {K:Act→World→Prop} {Q:Exit→Act→World→Prop} {E:Prop} (hgd:o.guard=none) (s x:Operand)
 (ho:o.op=.call { callee:=.builtin .append,args:= #[s,x],argTypes:= #[111,111] }) (hty:o.type=111)
 (base:Nat) (v:Value) (n:Nat) (xs:List Nat) (hs:a.eval s=v) (hown:w.ownsRow base 3 1 v n (yw xs)) (A:Option Addr) (m c:Nat) (l:List Nat) (hx:a.eval x=.slice A m c) (hr:Rd w 1 A m (yw l)) (hb:n+m≤1000000) (hbase:base≤w.heap.size)
 (h:∀v' w',w'.ownsRow base 3 1 v' (n+m) (yw (xs++l))→w.grownBy w' v.ownBlock→K (a.put o.dst v') w'):
 if Region.wanted o (yielded ops a.tmps)=true then Oper.wp Tryz.prog o a w K Q else E:=by
 obtain⟨v',w',hrun,h1,h2⟩:=zqn base v n xs hown A m c l hr hb hbase;exact zem hgd s x _ ho _ _ hs hx v' w' (by rw[hty];exact hrun) (h v' w' h1 h2)
theorem z93 (w:World) (base:Nat):Own2 w base [] (.slice none 0 0) (.slice none 0 0):=⟨World.ownsRow_nil _ _ _ _,World.ownsRow_nil _ _ _ _,fun _=>⟨rfl,rfl⟩⟩
theorem zxs (l:List Nat) (k:Nat):(yw l).take k=yw (l.take k):=by simp[yw,List.map_take]
theorem zxt (l:List Nat) (k:Nat):(yw l).drop k=yw (l.drop k):=by simp[yw,List.map_drop]
theorem zpk:∀(l:List Iv) (k:Nat),(ivC l).take (k*2)=ivC (l.take k)
 | [],k=>by simp[ivC]
 | s :: l,0=>by simp[ivC]
 | s :: l,k+1=>by
   have e1:ivC (s :: l)=[.int .u64 ((s.1:Nat):Int),.int .u64 ((s.2:Nat):Int)]++ivC l:=rfl;rw[e1,show (k+1)*2=k*2+1+1 by omega,List.cons_append,List.cons_append,List.nil_append,List.take_succ_cons,List.take_succ_cons,zpk l k]
   rfl
theorem zpl:∀(l:List Iv) (k:Nat),(ivC l).drop (k*2)=ivC (l.drop k)
 | [],k=>by simp[ivC]
 | s :: l,0=>by simp
 | s :: l,k+1=>by
   have e1:ivC (s :: l)=[.int .u64 ((s.1:Nat):Int),.int .u64 ((s.2:Nat):Int)]++ivC l:=rfl;rw[e1,show (k+1)*2=k*2+1+1 by omega,List.cons_append,List.cons_append,List.nil_append,List.drop_succ_cons,List.drop_succ_cons,zpl l k]
   rfl
theorem z94 {L:List Seg} (h:L.Pairwise fun p q=>p.1.1≤q.1.1) {l:List Iv} {i:Nat} {s:Iv} (hs:s∈yd (zal L l i)):s∈yd L∨s∈l:=by
 obtain⟨p,hp,rfl⟩:=List.mem_map.1 hs;rcases List.mem_append.1 ((zk1 h i l).2.mem_iff.1 hp) with h | h
 · exact .inl (List.mem_map.2 ⟨p,h,rfl⟩)
 · obtain⟨t,ht,rfl⟩:=List.mem_map.1 h;exact .inr ht
theorem zpm {w:World} (base:Nat) (v:Value) (n:Nat) (xs:List Nat) (hown:w.ownsRow base 52 1 v n (zi xs)) (A:Option Addr) (m c:Nat) (l:List Nat) (hr:Rd w 1 A m (zi l)) (hb:n+m≤1000000000000) (hbase:base≤w.heap.size):
 ∃v' w',(Builtin.append_ #[50,50] 50 #[v,.slice A m c]).run Tryz.prog w=.ok v' w'∧w'.ownsRow base 52 1 v' (n+m) (zi (xs++l))∧w.grownBy w' v.ownBlock:=by
 rw[zmt];exact zcp base _ _ _ _ 1 8 Tryz.underlying50 Tryz.info_u64 rfl (by omega) v n _ hown A m c _ hr (zjx l) (by unfold maxLen;omega) (by omega) hbase
theorem zxu {w:World} (base:Nat) (v:Value) (n:Nat) (xs:List Nat) (hown:w.ownsRow base 52 1 v n (zi xs)) (A:Option Addr) (m c:Nat) (l:List Nat) (hr:Rd w 1 A m (zi l)) (hb:n+m≤1000000000000) (hbase:base≤w.heap.size) (hm:0<m):
 ∃v' w',(Builtin.append_ #[50,50] 50 #[v,.slice A m c]).run Tryz.prog w=.ok v' w'∧w'.ownsRow base 52 1 v' (n+m) (zi (xs++l))∧Grw w w' v v':=by
 rcases hown.2 with ⟨rfl,h0⟩ | ⟨g,cap,cur,rfl,hg,hrow,hnc,hcm,hcs,htake⟩
 · have hx:xs=[]:=by
    have:=hown.1;rw[h0] at this;simp only[zi,List.length_map] at this;exact List.length_eq_zero_iff.1 (by omega)
   subst h0 hx;obtain⟨v',w',h1,h2,h3⟩:=zpm (w:=w) w.heap.size (.slice none 0 0) 0 [] (World.ownsRow_nil _ _ _ _) A m c l hr hb (Nat.le_refl _);exact⟨v',w',h1,y9 h2 hbase,h3,fun k e=>.inr (h2.lt _ e).1⟩
 · obtain⟨i,hi,hz,hs,hby⟩:=info_parts Tryz.info_u64;obtain⟨b,o,rfl,-⟩:=hr.2 hm;have hnews:=hr.news (by omega);have hl1:(zi l).length=m:=by have:=hr.1;omega
   rw[zmt];by_cases hf:n+m≤cap
   · obtain⟨w',r1,r2,r3⟩:=run_append_fits (P:=Tryz.prog) w base 50 50 52 i 1 Tryz.underlying50 hi hs g n cap _ hown ⟨b,o,none⟩ m c (zi l) (by omega) hnews (zjx l) hf;exact⟨_,w',r1,r2,r3,fun k e=>.inl e⟩
   · obtain⟨v',w',r1,r2,r3⟩:=run_append_arg_grows (P:=Tryz.prog) w 50 50 52 i _ 1 8 Tryz.underlying50 hi hz hs hby rfl (by omega) ⟨g,0,none⟩ n cap (zi xs) hown.1 (fun j u hu=>hown.cells (g:=g) rfl j u hu) ⟨b,o,none⟩ m c (zi l) (by omega) hnews (by omega) (by unfold maxLen;omega) (by omega);exact⟨v',w',r1,y9 r2 hbase,⟨r3.os,r3.tape,r3.output,r3.size,fun k hk _=>r3.block k hk (by simp)⟩,fun k e=>.inr (r2.lt _ e).1⟩
theorem zl6 {w:World} {ops:Array Oper} {rest:List Oper} {o:Oper} {a:Act} {Q:Exit→Act→World→Prop} (hgd:o.guard=none) (s x:Operand)
 (ho:o.op=.call { callee:=.builtin .append,args:= #[s,x],argTypes:= #[50,50] }) (hty:o.type=50)
 (base:Nat) (v:Value) (n:Nat) (xs:List Nat) (hs:a.eval s=v) (hown:w.ownsRow base 52 1 v n (zi xs)) (A:Option Addr) (m c:Nat) (l:List Nat) (hx:a.eval x=.slice A m c) (hr:Rd w 1 A m (zi l)) (hb:n+m≤1000000000000) (hbase:base≤w.heap.size)
 (h:∀v' w',w'.ownsRow base 52 1 v' (n+m) (zi (xs++l))→Below base w w'→wpList Tryz.prog ops Q rest (a.put o.dst v') w'):wpList Tryz.prog ops Q (o :: rest) a w:=by
 obtain⟨v',w',hrun,h1,h2⟩:=zpm base v n xs hown A m c l hr hb hbase;exact jf _ _ _ ho (by simp[Region.wanted,hgd]) _ _ hs hx v' w' (by rw[hty];exact hrun) (h v' w' h1 (Below.grown (B:=base) (Below.refl _ _) h2 hbase (fun k hk=>(hown.lt k hk).1)))
theorem zjc {w:World} {ops:Array Oper} {o:Oper} {a:Act} {K:Act→World→Prop} {Q:Exit→Act→World→Prop} {E:Prop} (hgd:o.guard=none) (s x:Operand)
 (ho:o.op=.call { callee:=.builtin .append,args:= #[s,x],argTypes:= #[50,50] }) (hty:o.type=50)
 (base:Nat) (v:Value) (n:Nat) (xs:List Nat) (hs:a.eval s=v) (hown:w.ownsRow base 52 1 v n (zi xs)) (A:Option Addr) (m c:Nat) (l:List Nat) (hx:a.eval x=.slice A m c) (hr:Rd w 1 A m (zi l)) (hb:n+m≤1000000000000) (hbase:base≤w.heap.size)
 (h:∀v' w',w'.ownsRow base 52 1 v' (n+m) (zi (xs++l))→Below base w w'→K (a.put o.dst v') w'):
 if Region.wanted o (yielded ops a.tmps)=true then Oper.wp Tryz.prog o a w K Q else E:=by
 obtain⟨v',w',hrun,h1,h2⟩:=zpm base v n xs hown A m c l hr hb hbase;exact zem hgd s x _ ho _ _ hs hx v' w' (by rw[hty];exact hrun) (h v' w' h1 (Below.grown (B:=base) (Below.refl _ _) h2 hbase (fun k hk=>(hown.lt k hk).1)))
theorem zxv {w:World} {ops:Array Oper} {rest:List Oper} {o:Oper} {a:Act} {Q:Exit→Act→World→Prop} (hgd:o.guard=none) (s x:Operand)
 (ho:o.op=.call { callee:=.builtin .append,args:= #[s,x],argTypes:= #[50,50] }) (hty:o.type=50)
 (base:Nat) (v:Value) (n:Nat) (xs:List Nat) (hs:a.eval s=v) (hown:w.ownsRow base 52 1 v n (zi xs)) (A:Option Addr) (m c:Nat) (l:List Nat) (hx:a.eval x=.slice A m c) (hr:Rd w 1 A m (zi l)) (hb:n+m≤1000000000000) (hbase:base≤w.heap.size) (hm:0<m)
 (h:∀v' w',w'.ownsRow base 52 1 v' (n+m) (zi (xs++l))→Grw w w' v v'→wpList Tryz.prog ops Q rest (a.put o.dst v') w'):wpList Tryz.prog ops Q (o :: rest) a w:=by
 obtain⟨v',w',hrun,h1,h2⟩:=zxu base v n xs hown A m c l hr hb hbase hm;exact jf _ _ _ ho (by simp[Region.wanted,hgd]) _ _ hs hx v' w' (by rw[hty];exact hrun) (h v' w' h1 h2)
theorem zxw {w:World} {ops:Array Oper} {o:Oper} {a:Act} {K:Act→World→Prop} {Q:Exit→Act→World→Prop} {E:Prop} (hgd:o.guard=none) (s x:Operand)
 (ho:o.op=.call { callee:=.builtin .append,args:= #[s,x],argTypes:= #[50,50] }) (hty:o.type=50)
 (base:Nat) (v:Value) (n:Nat) (xs:List Nat) (hs:a.eval s=v) (hown:w.ownsRow base 52 1 v n (zi xs)) (A:Option Addr) (m c:Nat) (l:List Nat) (hx:a.eval x=.slice A m c) (hr:Rd w 1 A m (zi l)) (hb:n+m≤1000000000000) (hbase:base≤w.heap.size) (hm:0<m)
 (h:∀v' w',w'.ownsRow base 52 1 v' (n+m) (zi (xs++l))→Grw w w' v v'→K (a.put o.dst v') w'):
 if Region.wanted o (yielded ops a.tmps)=true then Oper.wp Tryz.prog o a w K Q else E:=by
 obtain⟨v',w',hrun,h1,h2⟩:=zxu base v n xs hown A m c l hr hb hbase hm;exact zem hgd s x _ ho _ _ hs hx v' w' (by rw[hty];exact hrun) (h v' w' h1 h2)
theorem zxx {w:World} {base:Nat} {T:TypeId} {v:Value} {n m:Nat} {xs:List Value} (h:w.ownsRow base T 1 v n xs) (e:n=m):w.ownsRow base T 1 v m xs:=e ▸ h
theorem Rd.u64_at {w:World} {A:Option Addr} {n:Nat} {l:List Nat} (h:Rd w 1 A n (zi l)) (hn:0<n):∃b o,A=some ⟨b,o,none⟩∧∀j,j<l.length→w.cell? ⟨b,o+j,none⟩=some (.int .u64 ((nth l j:Nat):Int)):=by
 obtain⟨b,o,e,hc⟩:=h.2 hn;exact⟨b,o,e,fun j hj=>hc j _ (zen l j hj)⟩
set_option maxRecDepth 20000 in
theorem z95 (a:Option Addr) (n c ap:Nat) (l:List Iv) (w:World) (hI:Ivs w a n c l) (hD:zb4 l ap) (hn:n≤100000) (hap:ap≤1):
 Calls Tryz.prog 110 #[.slice a n c,.int .u64 ap] w fun e w'=>(∃v,e=.returned v∧w'.ownsRow w.heap.size 52 1 v (2*n) (zi (kf l ap)))∧Below w.heap.size w w':=by
 have HI:=hid hI;have Hl:=hid hI.len;have HD:=hid hD;have Hlt:=hid hI.lt;have Hall:=hid (show kf l ap=vk l ap n from by rw[←hI.len];rfl);clear hI hD;go_enter Tryz.func110,Tryz.ntmps110;go_wp2;go_loopw [5,6] (fun v i wr=>∃d:Nat,d≤n∧i=.int .i64 d∧Below w.heap.size w wr∧Hid (wr.ownsRow w.heap.size 52 1 v (2*d) (zi (vk l ap d)))) (fun _ i _=>n - (intOf i).toNat)
 case atStart=>exact⟨0,by omega,rfl,Below.refl _ _,World.ownsRow_nil _ _ _ _⟩
 case round=>
  obtain⟨d,hd,rfl,hb,ho⟩:=hrel;have Hb:=hid hb;clear hb;by_cases hdn:d<n
  · obtain⟨bl,ol,rfl⟩:=HI.out.some (by omega);obtain⟨g1,g2⟩:=HD.out d (by rw[Hl.out];exact hdn);have l1:=(Hlt.out _ (zaa (l:=l) (k:=d) (by rw[Hl.out];exact hdn)));have Hst:=hid (show vk l ap (d+1)=vk l ap d++[jd l ap d]++[(zb l d).2 - (zb l d).1] from by rw[List.append_assoc];rfl);have Hg:=hid (show jd l ap d=if d=0 then (zb l 0).1 else (zb l d).1 - (zb l (d - 1)).2 - 1 - ap from rfl);have hg0:d=0→zb l 0=zb l d:=fun h=>by rw[h]
    have h0:(0:Int)≤d:=by omega
    have h04:(d:Int)<(n:Int):=by omega
    have hbr:Below w.heap.size w wr:=Hb.out;have hz:w.heap.size≤wr.heap.size:=hbr.size;have r1:∀w',Below w.heap.size wr w'→w'.cell? ⟨bl,ol+d*2,none⟩=some (.int .u64 (((zb l d).1:Nat):Int)):=fun w' h=>(HI.out.at hdn w' (hbr.trans h)).1
    have r2:∀w',Below w.heap.size wr w'→w'.cell? ⟨bl,ol+d*2+1,none⟩=some (.int .u64 (((zb l d).2:Nat):Int)):=fun w' h=>(HI.out.at hdn w' (hbr.trans h)).2
    have Hc':=hid (fun (h1:d - 1<n) w' (h:Below w.heap.size wr w')=>(HI.out.at h1 w' (hbr.trans h)).2);generalize jd l ap d=gp at*;generalize zb l 0=s0 at*;generalize zb l d=s at*;generalize zb l (d - 1)=p at*;obtain⟨sx,sy⟩:=s;obtain⟨px,py⟩:=p;simp only at r1 r2 Hc' Hst Hg g1 g2 l1;have hsz:IntKind.u64.wrap ((sy:Int) - (sx:Int))=((sy - sx:Nat):Int):=by rw[IntKind.wrap_u64];omega
    generalize sy - sx=sz at*;have HoW:=hid (fun W (h:Below wr.heap.size wr W)=>zm ho.out h);rcases Nat.eq_zero_or_pos d with hd0 | hd0
    · have hgp:gp=sx:=by rw[Hg.out,if_pos hd0,hg0 hd0]
      have hq1:((d:Int) == 0)=true:=by rw[beq_iff_eq];omega
      have q1:=r1 _ (Below.refl _ _);have Hal:=hid (Below.alloc (Below.refl wr.heap.size wr) (Nat.le_refl _) (.cells #[.int .u64 gp] 52));have Hau:=hid (Below.alloc (Below.refl w.heap.size wr) hz (.cells #[.int .u64 gp] 52));subst hgp;clear Hc' g1 g2 l1 Hg hg0 hd0;go_wp2_with (at_builtin;refine zl6 rfl (.tmp 15) (.tmp 21) rfl rfl w.heap.size _ (2*d) _ rfl (HoW.out _ Hal.out) _ 1 1 [gp] rfl (yg (zg _ _ _ rfl) rfl rfl) (by omega) (Nat.le_trans hz Hal.out.size) ?_;intro v1 w1 ho1 hg1);have hS1:=Hau.out.trans hg1;clear hg1 q1 Hal Hau
      go_region_held3 (fun w'=>Below w.heap.size wr w') (first | assumption | exact Below.drew (by assumption) | exact Below.alloc (by assumption) (Nat.le_trans hz (Below.size (by assumption))) _) (first
       | (refine zjc rfl (.tmp 41) (.tmp 53) rfl rfl w.heap.size _ _ _ rfl (zm ho1 (by first | exact((Below.refl _ _).alloc (Nat.le_refl _) _).drew | exact((Below.refl _ _).drew).alloc (by simp) _)) _ 1 _ [sz] rfl (yg (by first | exact zg _ _ _ (by simp) | exact yy _ _ _ _ (zg _ _ _ (by simp))) rfl rfl) (by omega) (by have:=hS1.size;simp <;> omega) ?_
          intro v2 w2 ho2 hg2;have hS2:Below w.heap.size wr w2:=Below.trans (by assumption) hg2))
      all_goals
       go_wp2;go_roundw
       case rel=>exact⟨d+1,by omega,by go_num,hbr.trans hS2,by rw[Hst.out];exact ho2⟩
       case measure=>simp[intOf];omega
    · have g2:=g2 hd0;have hgp:gp=sx - py - 1 - ap:=by rw[Hg.out,if_neg (by omega)]
      have hq1:((d:Int) == 0)=false:=by rw[beq_eq_false_iff_ne];omega
      have hsub:IntKind.i64.wrap ((d:Int) - 1)=((d - 1:Nat):Int):=by rw[IntKind.wrap_i64];omega
      have h01:(0:Int)≤((d - 1:Nat):Int):=by omega
      have h03:((d - 1:Nat):Int)<(n:Int):=by omega
      have r3:=Hc'.out (by omega);have hw1:IntKind.u64.wrap ((sx:Int) - (py:Int))=((sx - py:Nat):Int):=by rw[IntKind.wrap_u64];omega
      have hw2:IntKind.u64.wrap (((sx - py:Nat):Int) - 1)=((sx - py - 1:Nat):Int):=by rw[IntKind.wrap_u64];omega
      have hw3:IntKind.u64.wrap (((sx - py - 1:Nat):Int) - (ap:Int))=(gp:Int):=by rw[IntKind.wrap_u64,hgp];omega
      clear Hc' g1 g2 l1 Hg hg0 hgp;generalize sx - py - 1=t2 at*;generalize sx - py=t1 at*;generalize d - 1=d1 at*;go_wp2_with fail
      go_region_held3 (fun w'=>Below w.heap.size wr w') (first | assumption | exact Below.refl _ _ | exact(Below.refl _ _).drew | exact Below.drew (by assumption) | exact Below.alloc (by assumption) (Nat.le_trans hz (Below.size (by assumption))) _) (first
       | (refine zjc rfl (.tmp 23) (.tmp 39) rfl rfl w.heap.size _ (2*d) _ rfl (HoW.out _ (by first | exact((Below.refl _ _).alloc (Nat.le_refl _) _).drew | exact((Below.refl _ _).drew).alloc (by simp) _)) _ 1 _ [gp] rfl (yg (by first | exact zg _ _ _ (by simp) | exact yy _ _ _ _ (zg _ _ _ (by simp))) rfl rfl) (by omega) (by simp <;> omega) ?_
          intro v1 w1 ho1 hg1;have hS1:Below w.heap.size wr w1:=Below.trans (by assumption) hg1))
      all_goals
       clear hg1;go_wp2_with fail
       go_region_held3 (fun w'=>Below w.heap.size wr w') (first | assumption | exact Below.drew (by assumption) | exact Below.alloc (by assumption) (Nat.le_trans hz (Below.size (by assumption))) _) (first
        | (refine zjc rfl (.tmp 41) (.tmp 53) rfl rfl w.heap.size _ _ _ rfl (zm ho1 (by first | exact((Below.refl _ _).alloc (Nat.le_refl _) _).drew | exact((Below.refl _ _).drew).alloc (by simp) _)) _ 1 _ [sz] rfl (yg (by first | exact zg _ _ _ (by simp) | exact yy _ _ _ _ (zg _ _ _ (by simp))) rfl rfl) (by omega) (by have:=hS1.size;simp <;> omega) ?_
           intro v2 w2 ho2 hg2;have hS2:Below w.heap.size wr w2:=Below.trans (by assumption) hg2))
       all_goals
        go_wp2;go_roundw
        case rel=>exact⟨d+1,by omega,by go_num,hbr.trans hS2,by rw[Hst.out];exact ho2⟩
        case measure=>simp[intOf];omega
  · obtain rfl:d=n:=by omega
    have Ho:=hid ho.out;rw[←Hall.out] at Ho;go_wp2;go_ret;exact⟨⟨_,rfl,Ho.out⟩,Hb.out⟩
theorem z96 (v:Vec) (d:Nat):ql v (d+1)=ql v d++[zb5 v d]++[(zc v d).2.1,(zc v d).2.2.length]++kf (zc v d).2.2 1:=by
 rw[ql,vv];simp only[List.append_assoc,List.cons_append,List.nil_append]
set_option maxRecDepth 20000 in
theorem z97 (a:Option Addr) (n cap:Nat) (v:Vec) (w:World) (hE:Ents w a n cap v) (hasc:v.Pairwise kd) (hG:∀e∈v,Good e.2.2) (hn:n≤300) (hh:∀e∈v,e.2.2.length≤500):
 Calls Tryz.prog 60 #[.slice a n cap] w fun x w'=>(∃y,x=.returned y∧w'.ownsRow w.heap.size 52 1 y (vw v).length (zi (vw v)))∧Below w.heap.size w w':=by
 have HE:=hid hE;have Hl:=hid hE.len;have Hmem:=hid hE.lt;have HG:=hid hG;have HH:=hid hh;have Hasc:=hid (List.pairwise_iff_getElem.1 hasc);have Hlen:=hid (fun d (hd:d≤v.length)=>zlm v hh d hd);have hw:IntKind.u64.wrap (n:Int)=(n:Int):=by rw[IntKind.wrap_u64];omega
 have ho0:=World.ownsRow_lit (e:=52) (size:=1) (base:=w.heap.size) w (zi [n]).toArray 1 (Nat.le_refl _) (by unfold maxLen;omega) rfl;have Ho0:=hid ho0;have hb0:Below w.heap.size w (w.alloc (.cells (zi [n]).toArray 52)):=(Below.refl _ _).alloc (Nat.le_refl _) _;clear hE hG hh hasc ho0;go_enter Tryz.func60,Tryz.ntmps60;go_wp2;go_loopw [3,4] (fun y i wr=>∃d:Nat,d≤n∧i=.int .i64 d∧Below w.heap.size w wr∧Hid (wr.ownsRow w.heap.size 52 1 y (ql v d).length (zi (ql v d)))) (fun _ i _=>n - (intOf i).toNat)
 case atStart=>exact⟨0,by omega,rfl,hb0,by
  have:=Ho0.out;rw[show ql v 0=[n] from by rw[ql,Hl.out]];exact this⟩
 case round=>
  obtain⟨d,hd,rfl,hb,ho⟩:=hrel;have Hb:=hid hb;clear hb;by_cases hdn:d<n
  · have hdv:d<v.length:=by rw[Hl.out];exact hdn
    obtain⟨bb,oo,rfl⟩:=HE.out.some (by omega);obtain⟨x,m,c,hq⟩:=HE.out.fix hdn;have hbr:Below w.heap.size w wr:=Hb.out;have hz:w.heap.size≤wr.heap.size:=hbr.size;have r1:∀w',Below w.heap.size wr w'→w'.cell? ⟨bb,oo+d*3,none⟩=some (.int .u64 (((zc v d).1:Nat):Int)):=fun w' h=>(hq w' (hbr.trans h)).1
    have r2:∀w',Below w.heap.size wr w'→w'.cell? ⟨bb,oo+d*3+1,none⟩=some (.int .u64 (((zc v d).2.1:Nat):Int)):=fun w' h=>(hq w' (hbr.trans h)).2.1
    have r3:∀w',Below w.heap.size wr w'→w'.cell? ⟨bb,oo+d*3+2,none⟩=some (.slice x m c):=fun w' h=>(hq w' (hbr.trans h)).2.2.1
    have HIv:=hid (fun w' (h:Below w.heap.size wr w')=>(hq w' (hbr.trans h)).2.2.2);have hIv:=HIv.out _ (Below.refl _ _);have hml:=hIv.len;have hmh:m≤500:=by rw[←hml];exact HH.out _ (jb hdv)
    have HDf:=hid (zn9 (HG.out _ (jb hdv)));have hwm:IntKind.u64.wrap (m:Int)=(m:Int):=by rw[IntKind.wrap_u64];omega
    have Hst:=hid (z96 v d);rw[hml] at Hst;have Hrd:=hid (show zb5 v d=if d=0 then (zc v 0).1 else (zc v d).1 - (zc v (d - 1)).1 - 1 from rfl);have hr0:d=0→(zc v 0).1=(zc v d).1:=fun h=>by rw[h]
    have hlp:0<d→(zc v (d - 1)).1<(zc v d).1:=fun h=>by
     have:=Hasc.out (d - 1) d (by omega) hdv (by omega);rw[qn hdv,qn (by omega)];exact this
    have l1:=(Hmem.out _ (jb hdv)).rep;have hln:=Hlen.out d (by omega);have hdl:(kf (zc v d).2.2 1).length=2*m:=by unfold kf;rw[ze2,hml]
    have Hc':=hid (fun (h1:d - 1<n)=>show ∀w',Below w.heap.size wr w'→w'.cell? ⟨bb,oo+(d - 1)*3,none⟩=some (.int .u64 (((zc v (d - 1)).1:Nat):Int)) from by
     obtain⟨_,_,_,hq'⟩:=HE.out.fix h1;exact fun w' h=>(hq' w' (hbr.trans h)).1)
    clear hq hIv hml;generalize zb5 v d=rp at*;generalize (zc v (d - 1)).1=pr at*;generalize zc v d=e at*;obtain⟨er,em,eh⟩:=e;simp only at r1 r2 HIv HDf Hst Hrd hr0 hlp l1 hdl;generalize ql v d=P at*;have HoW:=hid (fun W (h:Below wr.heap.size wr W)=>zm ho.out h);rcases Nat.eq_zero_or_pos d with hd0 | hd0
    case' inl=>
     have hgp:rp=er:=by rw[Hrd.out,if_pos hd0,hr0 hd0]
     have hq1:((d:Int) == 0)=true:=by rw[beq_iff_eq];omega
     have q1:=r1 _ (Below.refl _ _);have Hal:=hid (Below.alloc (Below.refl wr.heap.size wr) (Nat.le_refl _) (.cells #[.int .u64 rp] 52));have Hau:=hid (Below.alloc (Below.refl w.heap.size wr) hz (.cells #[.int .u64 rp] 52));subst hgp;clear Hc' hlp l1 Hrd hr0 hd0;go_wp2_with (at_builtin;refine zl6 rfl (.tmp 17) (.tmp 23) rfl rfl w.heap.size _ P.length _ rfl (HoW.out _ Hal.out) _ 1 1 [rp] rfl (yg (zg _ _ _ rfl) rfl rfl) (by omega) (Nat.le_trans hz Hal.out.size) ?_;intro v1 w1 ho1 hg1);have hS1:=Hau.out.trans hg1;clear hg1 q1 Hal Hau
    case' inr=>
     have hlp:=hlp hd0;have hgp:rp=er - pr - 1:=by rw[Hrd.out,if_neg (by omega)]
     have hq1:((d:Int) == 0)=false:=by rw[beq_eq_false_iff_ne];omega
     have hsub:IntKind.i64.wrap ((d:Int) - 1)=((d - 1:Nat):Int):=by rw[IntKind.wrap_i64];omega
     have h01:(0:Int)≤((d - 1:Nat):Int):=by omega
     have h03:((d - 1:Nat):Int)<(n:Int):=by omega
     have h0:(0:Int)≤d:=by omega
     have h04:(d:Int)<(n:Int):=by omega
     have r4:=Hc'.out (by omega);have hw1:IntKind.u64.wrap ((er:Int) - (pr:Int))=((er - pr:Nat):Int):=by rw[IntKind.wrap_u64];omega
     have hw2:IntKind.u64.wrap (((er - pr:Nat):Int) - 1)=(rp:Int):=by rw[IntKind.wrap_u64,hgp];omega
     clear Hc' hlp l1 Hrd hr0 hgp;generalize er - pr=t1 at*;generalize d - 1=d1 at*;go_wp2_with fail
     go_region_held3 (fun w'=>Below w.heap.size wr w') (first | assumption | exact Below.refl _ _ | exact(Below.refl _ _).drew | exact Below.drew (by assumption) | exact Below.alloc (by assumption) (Nat.le_trans hz (Below.size (by assumption))) _) (first
      | (refine zjc rfl (.tmp 25) (.tmp 39) rfl rfl w.heap.size _ P.length _ rfl (HoW.out _ (by first | exact((Below.refl _ _).alloc (Nat.le_refl _) _).drew | exact((Below.refl _ _).drew).alloc (by simp) _)) _ 1 _ [rp] rfl (yg (by first | exact zg _ _ _ (by simp) | exact yy _ _ _ _ (zg _ _ _ (by simp))) rfl rfl) (by omega) (by simp <;> omega) ?_
         intro v1 w1 ho1 hg1;have hS1:Below w.heap.size wr w1:=Below.trans (by assumption) hg1))
     all_goals clear hg1
     all_goals go_wp2_with fail
    all_goals
     have h0:(0:Int)≤d:=by omega
     have h04:(d:Int)<(n:Int):=by omega
     go_region_held3 (fun w'=>Below w.heap.size wr w') (first | assumption | exact Below.drew (by assumption) | exact Below.alloc (by assumption) (Nat.le_trans hz (Below.size (by assumption))) _) (first
      | (refine zjc rfl (.tmp 41) (.tmp 54) rfl rfl w.heap.size _ _ _ rfl (zm ho1 (by first | exact((Below.refl _ _).alloc (Nat.le_refl _) _).drew | exact((Below.refl _ _).drew).alloc (by simp) _)) _ 2 _ [em,m] rfl (yg (by first | exact zg _ _ _ (by simp) | exact yy _ _ _ _ (zg _ _ _ (by simp))) rfl rfl) (by omega) (by have:=hS1.size;simp <;> omega) ?_
         intro v2 w2 ho2 hg2;have hS2:Below w.heap.size wr w2:=Below.trans (by assumption) hg2))
     all_goals
      have q3:=r3 _ hS2;have HD:=hid (z95 x m c 1 eh w2 (HIv.out _ hS2) HDf.out (by omega) (by omega));rw[show ((1:Nat):Int)=1 from rfl] at HD;have Ho2:=hid ho2;clear hg2 ho2 ho1 hS1 r1 r2 r3;go_wp2_with fail;refine HD.out.mono ?_;rintro z w3 ⟨⟨vd,rfl,hod⟩,hb3⟩;obtain⟨ad,cd,rfl⟩:=ks hod;have hbz:Below w.heap.size wr w3:=hS2.trans (hb3.mono (Nat.le_trans hz hS2.size));have Ho3:=hid (zm Ho2.out hb3);have Hrd3:=hid (Rd.own hod);clear hod hb3 q3 HD Ho2;go_wp2_with (at_builtin;refine zl6 rfl (.tmp 56) (.tmp 62) rfl rfl w.heap.size _ _ _ rfl Ho3.out _ (2*m) _ (kf eh 1) rfl Hrd3.out (by omega) (Nat.le_trans hz hbz.size) ?_;intro v4 w4 ho4 hg4);have hS4:=hbz.trans hg4;clear hg4;go_wp2;go_roundw
      case rel=>exact⟨d+1,by omega,by go_num,hbr.trans hS4,by
       rw[Hst.out];refine zxx ho4 ?_;simp only[List.length_append,List.length_cons,List.length_nil,hdl]⟩
      case measure=>simp[intOf];omega
  · obtain rfl:d=n:=by omega
    have Ho:=hid ho.out;rw[←Hl.out,show ql v v.length=vw v from rfl] at Ho;go_wp2;go_ret;exact⟨⟨_,rfl,Ho.out⟩,Hb.out⟩
set_option maxRecDepth 20000 in
theorem z98 (a:Option Addr) (n cap:Nat) (l:List Nat) (w:World) (hr:Rd w 1 a n (zi l)) (hl:l.length=n) (hlt:∀x∈l,x<18446744073709551616) (hn:n≤90000000000):
 Calls Tryz.prog 27 #[.slice a n cap] w fun x w'=>(∃y,x=.returned y∧OwnB w' w.heap.size y l)∧Below w.heap.size w w':=by
 have HR:=hid (fun W (h:Below w.heap.size w W)=>hr.below h);have Hl:=hid hl;have Hlt:=hid hlt;clear hr hl hlt;go_enter Tryz.func27,Tryz.ntmps27;go_wp2;go_loopw [3,4] (fun y i wr=>∃d:Nat,d≤n∧i=.int .i64 d∧Below w.heap.size w wr∧Hid (OwnB wr w.heap.size y (l.take d))) (fun _ i _=>n - (intOf i).toNat)
 case atStart=>exact⟨0,by omega,rfl,Below.refl _ _,by rw[List.take_zero];exact zu1 _ _⟩
 case round=>
  obtain⟨d,hd,rfl,hb,ho⟩:=hrel;have Hb:=hid hb;clear hb;by_cases hdn:d<n
  · have hdl:d<l.length:=by rw[Hl.out];exact hdn
    obtain⟨bb,oo,rfl,hcell⟩:=(HR.out _ Hb.out).u64_at (by omega);have q1:=hcell d (by rw[Hl.out];exact hdn);have hx:=Hlt.out _ (za5 hdl);have Hst:=hid (show l.take (d+1)=l.take d++[nth l d] from by rw[List.take_succ_eq_append_getElem hdl];simp[nth,hdl]);have HV:=hid (z91 9 (nth l d) wr (by omega) hx (Nat.le_refl _));have Hjl:=hid (zih (l.take d));have Htl:(l.take d).length=d:=by rw[List.length_take];omega
    have h0:(0:Int)≤d:=by omega
    have h04:(d:Int)<(n:Int):=by omega
    clear hcell;generalize nth l d=x at*;generalize l.take d=P at*;go_wp2_with fail;refine HV.out.mono ?_;rintro z w1 ⟨v1,rfl,ho1,hb1⟩;obtain⟨a1,c1,rfl,hB1⟩:=zek ho1 (zhk 9 x);have Ho1:=hid (ho.out.below hb1);have hbb:Below w.heap.size w w1:=Hb.out.trans (hb1.mono Hb.out.size);obtain⟨v2,w2,hr2,ho2,hg2⟩:=zge w.heap.size _ _ _ Ho1.out a1 _ c1 _ hB1 (by have:=Hjl.out;have:=zhl 9 x;omega) hbb.size;have Ho2:=hid ho2;have Hb2:=hid (hbb.grown hg2 hbb.size (fun k hk=>(Ho1.out.lt k hk).1));have Hr2:=hid hr2;clear hr2 ho2 hg2 hb1 ho1 hB1 hbb q1;go_wp2_with (at_builtin;refine jf _ _ 27 rfl rfl _ _ rfl rfl _ _ Hr2.out ?_);go_roundw
    case rel=>exact⟨d+1,by omega,by go_num,Hb2.out,by
     rw[Hst.out];unfold OwnB;rw[ztc,ztd,List.length_append,zf8];exact Ho2.out⟩
    case measure=>simp[intOf];omega
  · obtain rfl:d=n:=by omega
    have Ho:=hid ho.out;rw[show l.take d=l from List.take_of_length_le (by rw[Hl.out];exact Nat.le_refl _)] at Ho;go_wp2;go_ret;exact⟨⟨_,rfl,Ho.out⟩,Hb.out⟩
end
end Go.Proofs.YtdnjfnofjaoajaaGreatDoor
