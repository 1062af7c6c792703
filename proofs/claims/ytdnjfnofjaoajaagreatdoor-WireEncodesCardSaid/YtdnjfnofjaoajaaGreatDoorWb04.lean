/- Walks and laws, joined: Wb04. -/
import Derived.WalkLawsBesides
import Derived.Test.YtdnjfnofjaoajaaGreatDoorWb02
set_option linter.unusedVariables false
set_option maxHeartbeats 16000000
namespace Go.Proofs.YtdnjfnofjaoajaaGreatDoor
open Lib (hid)
section
open Go.RowKit Go.Shelf
structure Kept (p:Nat→Prop) (A B:World):Prop where
 os:B.os=A.os
 tape:B.tape=A.tape
 output:B.output=A.output
 size:A.heap.size≤B.heap.size
 row:∀k,k<A.heap.size→p k→B.heap[k]?=A.heap[k]?
variable {p q:Nat→Prop} {A B C:World}
theorem Kept.refl (p:Nat→Prop) (A:World):Kept p A A:=⟨rfl,rfl,rfl,Nat.le_refl _,fun _ _ _=>rfl⟩
theorem Kept.trans (h:Kept p A B) (k:Kept p B C):Kept p A C:=
 ⟨k.os.trans h.os,k.tape.trans h.tape,k.output.trans h.output,Nat.le_trans h.size k.size,fun i hi hp=>(k.row i (Nat.lt_of_lt_of_le hi h.size) hp).trans (h.row i hi hp)⟩
theorem Kept.mono (h:Kept p A B) (hq:∀k,k<A.heap.size→q k→p k):Kept q A B:=⟨h.os,h.tape,h.output,h.size,fun i hi hp=>h.row i hi (hq i hi hp)⟩
theorem Kept.alloc (h:Kept p A B) (o:Obj):Kept p A (B.alloc o):=
 h.trans ⟨rfl,rfl,rfl,by simp,fun k hk _=>Below.heap_alloc _ _ _ hk⟩
theorem Kept.setCell (h:Kept p A B) {a:Addr} (ha:a.block<A.heap.size→¬p a.block) (u:Value):Kept p A (B.setCell a u):=
 ⟨h.os,h.tape,h.output,by simpa [World.setCell] using h.size,fun k hk hp=>(Below.heap_setCell _ _ _ _ (fun e=>by subst e;exact ha hk hp)).trans (h.row k hk hp)⟩
theorem Kept.putObj (h:Kept p A B) {r:Nat} (ha:r<A.heap.size→¬p r) (o:Obj):Kept p A (B.putObj r o):=
 ⟨h.os,h.tape,h.output,by simpa using h.size,fun k hk hp=>(World.putObj_heap_other (fun e=>by subst e;exact ha hk hp)).trans (h.row k hk hp)⟩
theorem Kept.below (h:Kept p A B) (hb:Below B.heap.size B C):Kept p A C:=
 h.trans ⟨hb.os,hb.tape,hb.output,hb.size,fun k hk _=>hb.block k hk⟩
theorem Kept.grown {row:Option Nat} (h:Kept p A B) (hg:B.grownBy C row) (hr:∀k,row=some k→k<A.heap.size→¬p k):Kept p A C:=
 ⟨hg.os.trans h.os,hg.tape.trans h.tape,hg.output.trans h.output,Nat.le_trans h.size hg.size,
  fun k hk hp=>(hg.block k (Nat.lt_of_lt_of_le hk h.size) (fun e=>hr k e.symm hk hp)).trans (h.row k hk hp)⟩
theorem Kept.drewN (h:Kept p A B) (n:Nat):Kept p A (B.drewN n):=⟨h.os,h.tape,h.output,h.size,h.row⟩
theorem Kept.drew (h:Kept p A B):Kept p A B.drew:=⟨h.os,h.tape,h.output,h.size,h.row⟩
theorem Kept.cell (h:Kept p A B) {a:Addr} {v:Value} (hc:A.cell? a=some v) (ha:p a.block):B.cell? a=some v:=
 (World.cell?_of_block (h.row a.block (ze hc) ha)).trans hc
theorem Kept.frozen (h:Kept p A B) {a:Addr} (hc:a.block<A.heap.size) (ha:p a.block):B.frozen? a=A.frozen? a:=
 World.frozen?_of_block (h.row a.block hc ha)
theorem zqh {n:Nat} (h:Below n A B):Kept (fun k=>k<n) A B:=⟨h.os,h.tape,h.output,h.size,fun k _ hk=>h.block k hk⟩
theorem Kept.toBelow {n:Nat} (h:Kept p A B) (hp:∀k,k<n→p k) (hn:n≤A.heap.size):Below n A B:=⟨h.os,h.tape,h.output,h.size,fun k hk=>h.row k (Nat.lt_of_lt_of_le hk hn) (hp k hk)⟩
end
section
def yx (f:Nat→Bool):List Nat→List (Iv×Bool)
 | []=>[]
 | [a]=>[((a,18446744073709551615),f a)]
 | a :: b :: r=>((a,b - 1),f a) :: yx f (b :: r)
theorem zav (f:Nat→Bool):∀(l:List Nat),(yx f l).length=l.length
 | []=>rfl
 | [a]=>rfl
 | a :: b :: r=>by rw[yx,List.length_cons,zav f (b :: r)];rfl
theorem zmp (f:Nat→Bool):∀{a:Nat} {r:List Nat},Asc (a :: r)→(∀x∈a :: r,x<18446744073709551616)→zhi 18446744073709551615 a (yx f (a :: r))
 | a,[],h,hl=>⟨rfl,by have:=hl a (by simp);show a≤18446744073709551615;omega,rfl⟩
 | a,[b],h,hl=>by
   have h1:=h.1;have h2:=hl b (by simp);refine⟨rfl,?_,?_,?_⟩
   · show a≤b - 1;omega
   · show b - 1<18446744073709551615;omega
   · show zhi _ (b - 1+1) (yx f [b]);rw[show b - 1+1=b by omega]
     exact zmp f (r:=[]) h.tail fun x hx=>hl x (List.mem_cons_of_mem _ hx)
 | a,b :: c :: r,h,hl=>by
   have h1:=h.1;have h2:=hl b (by simp);refine⟨rfl,?_,?_,?_⟩
   · show a≤b - 1;omega
   · show b - 1<18446744073709551615;omega
   · show zhi _ (b - 1+1) (yx f (b :: c :: r));rw[show b - 1+1=b by omega];exact zmp f (r:=c :: r) h.tail fun x hx=>hl x (List.mem_cons_of_mem _ hx)
theorem zqi (f:Nat→Bool):∀{a:Nat} {r:List Nat},Asc (a :: r)→(∀x∈a :: r,x<18446744073709551616)→
 (∀c x,a≤c→c≤x→x<18446744073709551616→(∀y∈a :: r,¬(c<y∧y≤x))→f x=f c)→
 ∀x,a≤x→x<18446744073709551616→((yx f (a :: r)).any fun p=>p.2 && (decide (p.1.1≤x) && decide (x≤p.1.2)))=f x
 | a,[],h,hl,hc,x,h1,h2=>by
   have:=hc a x (Nat.le_refl _) h1 h2 (by intro y hy;simp at hy;subst hy;omega)
   simp[yx,this,h1,show x≤18446744073709551615 by omega]
 | a,b :: r,h,hl,hc,x,h1,h2=>by
   have hab:=h.1;rw[yx,List.any_cons];by_cases hx:x<b
   · have e:=hc a x (Nat.le_refl _) h1 h2 (by
      intro y hy;rcases List.mem_cons.1 hy with rfl | hy
      · omega
      · rcases List.mem_cons.1 hy with rfl | hy
        · omega
        · have:=h.tail.lower y hy;omega)
     have rest:((yx f (b :: r)).any fun p=>p.2 && (decide (p.1.1≤x) && decide (x≤p.1.2)))=false:=by
      have lo:∀{b:Nat} {r:List Nat},Asc (b :: r)→∀p∈yx f (b :: r),b≤p.1.1:=by
       intro b r
       induction r generalizing b with
       | nil=>intro _ p hp;simp[yx] at hp;subst hp;exact Nat.le_refl _
       | cons c r ih=>
        intro hA p hp;rw[yx] at hp;rcases List.mem_cons.1 hp with rfl | hp
        · exact Nat.le_refl _
        · have:=ih hA.tail p hp;have:=hA.1;omega
      rw[List.any_eq_false];intro p hp;have:=lo h.tail p hp;simp;omega
     rw[rest,Bool.or_false,e];simp[h1,show x≤b - 1 by omega]
   · have ih:=zqi f h.tail (fun y hy=>hl y (List.mem_cons_of_mem _ hy)) (by
      intro c z hc1 hc2 hc3 hc4;refine hc c z (by omega) hc2 hc3 ?_;intro y hy;rcases List.mem_cons.1 hy with rfl | hy
      · omega
      · exact hc4 y hy) x (by omega) h2
     rw[ih];have:decide (x≤b - 1)=false:=by rw[decide_eq_false_iff_not];omega
     simp[this]
theorem zqj (f:Nat→Bool):∀{l:List Nat},(∀x∈l,x<18446744073709551616)→∀p∈yx f l,p.1.2<18446744073709551616
 | [],_,p,hp=>by simp[yx] at hp
 | [a],_,p,hp=>by simp[yx] at hp;subst hp;simp
 | a :: b :: r,h,p,hp=>by
   rw[yx] at hp;rcases List.mem_cons.1 hp with rfl | hp
   · have:=h b (by simp);simp only;omega
   · exact zqj f (fun x hx=>h x (List.mem_cons_of_mem _ hx)) p hp
theorem zze {f:Nat→Bool} {L:List Nat} (h:Asc L) (hl:∀x∈L,x<18446744073709551616) (h0:0∈L)
 (hc:∀c x,c≤x→x<18446744073709551616→(∀y∈L,¬(c<y∧y≤x))→f x=f c) (ht:∀x,18446744073709551616≤x→f x=false):
 Good (qu (yx f L) [])∧∀x,mem (qu (yx f L) []) x=f x:=by
 cases L with
 | nil=>simp at h0
 | cons a r=>
  have ha:a=0:=by
   rcases List.mem_cons.1 h0 with e | e
   · exact e.symm
   · have:=h.lower 0 e;omega
  subst ha;obtain⟨g1,g2⟩:=zmj (out:=[]) (zmp f h hl) trivial (by simp);refine⟨g1,fun x=>?_⟩;rw[g2,zbx,Bool.false_or];by_cases hx:x<18446744073709551616
  · exact zqi f h hl (fun c z _=>hc c z) x (Nat.zero_le _) hx
  · rw[ht x (by omega),List.any_eq_false];intro p hp;have:=zqj f hl p hp;simp;omega
theorem zfn {l:List Iv} (hl:∀t∈l,t.1<18446744073709551616∧t.2<18446744073709551616) {c x:Nat} (hcx:c≤x) (hx:x<18446744073709551616) (h:∀y∈yh l,¬(c<y∧y≤x)):mem l x=mem l c:=by
 have hb:∀s∈l,∀y∈bnd s,y∈yh l:=fun s hs y hy=>List.mem_flatMap.2 ⟨s,hs,hy⟩
 rw[Bool.eq_iff_iff,mem_iff,mem_iff];constructor
 · rintro⟨s,hs,h1,h2⟩;refine⟨s,hs,?_,by omega⟩;have:=h s.1 (hb s hs s.1 (by simp[bnd]));omega
 · rintro⟨s,hs,h1,h2⟩;refine⟨s,hs,by omega,?_⟩;refine Nat.le_of_not_lt fun hlt=>?_
   have:=h (s.2+1) (hb s hs _ (by unfold bnd;rw[if_pos (by omega)];simp));omega
theorem zho {l:List Iv} (hl:∀t∈l,t.1<18446744073709551616∧t.2<18446744073709551616) {x:Nat} (hx:18446744073709551616≤x):mem l x=false:=by
 rw[zfj];intro s hs;have:=hl s hs;omega
theorem zfo {l:List Iv} (hl:∀t∈l,t.1<18446744073709551616∧t.2<18446744073709551616):∀y∈yh l,y<18446744073709551616:=by
 intro y hy;obtain⟨s,hs,hy⟩:=List.mem_flatMap.1 hy;have:=hl s hs;unfold bnd at hy;split at hy <;> simp at hy <;> omega
theorem zmq:∀(a b:List (Iv×Bool)) (out:List Iv),qu (a++b) out=qu b (qu a out)
 | [],b,out=>rfl
 | (s,t) :: a,b,out=>by rw[List.cons_append,qu,qu,zmq a b]
theorem zgf (f:Nat→Bool):∀{l:List Nat} {i:Nat},i<l.length→(yx f l)[i]?=some ((if i+1<l.length then (nth l i,nth l (i+1) - 1) else (nth l i,18446744073709551615)),f (nth l i))
 | [],i,h=>by simp at h
 | [a],i,h=>by
   have:i=0:=by simpa using h
   subst this
   simp[yx,nth]
 | a :: b :: r,0,h=>by simp[yx,nth]
 | a :: b :: r,i+1,h=>by
   have:=zgf f (l:=b :: r) (i:=i) (by simpa using h);rw[yx,List.getElem?_cons_succ,this];have e1:nth (a :: b :: r) (i+1)=nth (b :: r) i:=rfl;have e2:nth (a :: b :: r) (i+1+1)=nth (b :: r) (i+1):=rfl;rw[e1,e2];simp only[List.length_cons,Nat.add_lt_add_iff_right]
theorem zjv:∀{ps:List (Iv×Bool)} {out:List Iv},(∀p∈ps,p.1.1<18446744073709551616∧p.1.2<18446744073709551616)→(∀t∈out,t.1<18446744073709551616∧t.2<18446744073709551616)→∀t∈qu ps out,t.1<18446744073709551616∧t.2<18446744073709551616
 | [],out,_,ho,t,ht=>ho t ht
 | (s,b) :: ps,out,h,ho,t,ht=>by
   rw[qu] at ht;refine zjv (fun p hp=>h p (List.mem_cons_of_mem _ hp)) ?_ t ht;have hs:=h _ (List.mem_cons_self ..);simp only at hs
   cases b with
   | false=>exact ho
   | true=>
    intro u hu;rw[if_pos rfl] at hu;rcases zcm out with rfl | ⟨a,v,rfl⟩
    · simp[zga] at hu;subst hu;exact hs
    · have hv:=ho v (by simp);rw[zej] at hu;split at hu
      · rcases List.mem_append.1 hu with hu | hu
        · exact ho u (by simp[hu])
        · simp at hu;subst hu;exact⟨hv.1,hs.2⟩
      · rcases List.mem_append.1 hu with hu | hu
        · exact ho u hu
        · simp at hu;subst hu;exact hs
theorem zjw:∀(ps:List (Iv×Bool)) (out:List Iv),(qu ps out).length≤out.length+ps.length
 | [],out=>Nat.le_refl _
 | (s,b) :: ps,out=>by
   rw[qu];refine Nat.le_trans (zjw ps _) ?_;rw[List.length_cons]
   have:(zby out s).length≤out.length+1:=by
    rcases zcm out with rfl | ⟨a,v,rfl⟩
    · simp[zga]
    · rw[zej];split <;> simp
   split <;> omega
def zfp (l:List Iv):Prop:=∀i j,i<j→j<l.length→(zb l i).1≤(zb l j).1
theorem zmr (f:Nat→Bool) {L:List Nat} {i:Nat} (h:i<L.length):(yx f L)[i]?=some (za4 L i,f (nth L i)):=by
 rw[zgf f h];unfold za4
 rfl
end
section
open Go.RowKit
structure RdV (w0 w:World) (g x n st:Nat):Prop where
 below:Below w0.heap.size w0 w
 base:w0.heap.size≤g
 lt:g<w.heap.size
 c0:w.cell? ⟨g,0,none⟩=some (.int .u64 (x:Int))
 c1:w.cell? ⟨g,1,none⟩=some (.int .i64 (n:Int))
 c2:w.cell? ⟨g,2,none⟩=some (.int .i64 (st:Int))
 f0:w.frozen? ⟨g,0,none⟩=false
 f1:w.frozen? ⟨g,1,none⟩=false
 f2:w.frozen? ⟨g,2,none⟩=false
 x64:x<18446744073709551616
theorem RdV.later {w0 w w':World} {g x n st:Nat} (h:RdV w0 w g x n st) (hb:Below w.heap.size w w'):RdV w0 w' g x n st:=by
 refine⟨h.below.trans (hb.mono h.below.size),h.base,Nat.lt_of_lt_of_le h.lt hb.size,?_,?_,?_,?_,?_,?_,h.x64⟩
 · rw[hb.cell (p:=⟨g,0,none⟩) h.lt];exact h.c0
 · rw[hb.cell (p:=⟨g,1,none⟩) h.lt];exact h.c1
 · rw[hb.cell (p:=⟨g,2,none⟩) h.lt];exact h.c2
 · rw[hb.frozen (p:=⟨g,0,none⟩) h.lt];exact h.f0
 · rw[hb.frozen (p:=⟨g,1,none⟩) h.lt];exact h.f1
 · rw[hb.frozen (p:=⟨g,2,none⟩) h.lt];exact h.f2
theorem RdV.set {w0 w:World} {g x n st:Nat} (h:RdV w0 w g x n st) (x' n' st':Nat) (hx:x'<18446744073709551616):
 RdV w0 (((w.setCell ⟨g,1,none⟩ (.int .i64 (n':Int))).setCell ⟨g,0,none⟩ (.int .u64 (x':Int))).setCell ⟨g,2,none⟩ (.int .i64 (st':Int))) g x' n' st':=by
 refine⟨((h.below.setCell (p:=⟨g,1,none⟩) h.base _).setCell (p:=⟨g,0,none⟩) h.base _).setCell (p:=⟨g,2,none⟩) h.base _,h.base,by have:=h.lt;simpa [World.setCell] using this,?_,?_,?_,?_,?_,?_,hx⟩
 · rw[World.cell?_setCell_other _ _ _ _ (by simp)];exact World.cell?_setCell_same _ _ _ (by rw[World.cell?_setCell_other _ _ _ _ (by simp)];exact h.c0)
 · rw[World.cell?_setCell_other _ _ _ _ (by simp),World.cell?_setCell_other _ _ _ _ (by simp)];exact World.cell?_setCell_same _ _ _ h.c1
 · exact World.cell?_setCell_same _ _ _ (by rw[World.cell?_setCell_other _ _ _ _ (by simp),World.cell?_setCell_other _ _ _ _ (by simp)];exact h.c2)
 · simp only[World.frozen?_setCell];exact h.f0
 · simp only[World.frozen?_setCell];exact h.f1
 · simp only[World.frozen?_setCell];exact h.f2
theorem zzf:∀c:Fin 256,c.val &&& (255 - 128)=c.val % 128:=by decide +kernel
theorem zfq (c:Nat) (hc:c<256):bits .andNot .u8 (c:Int) 128=((c % 128:Nat):Int):=by
 have h:=u8_andNot_nat c 128 hc (by omega);rw[zzf ⟨c,hc⟩] at h;exact h
theorem zfr (x n c:Nat) (hx:x<18446744073709551616):bits .or .u64 (x:Int) (IntKind.u64.wrap ((c:Int) % 128*2 ^ (7*n)))=((jn x n c:Nat):Int):=by
 rw[IntKind.wrap_u64,show (((c:Int) % 128*2 ^ (7*n)) % 18446744073709551616)=((c % 128*2 ^ (7*n) % 18446744073709551616:Nat):Int) from by
  rw[Int.natCast_emod,Int.natCast_mul,Int.natCast_emod,Int.natCast_pow];rfl]
 exact u64_or_nat x _ hx (Nat.mod_lt _ (by omega))
theorem RdV.drew {w0 w:World} {g x n st:Nat} (h:RdV w0 w g x n st):RdV w0 w.drew g x n st:=h.later ((Below.refl _ _).drew)
theorem zzg (w0 w:World) (g x n c:Nat) (h:RdV w0 w g x n 0) (hc:c<256) (hn10:n<10) (h1:c=0) (h2:n=0):
 Calls Tryz.prog 98 #[.pointer (some ⟨g,0,none⟩),.int .u8 c] w fun e w'=>e=.returned (.int .i64 (1:Nat))∧RdV w0 w' g (jn x n c) (n+1) 1:=by
 have H:=hid (fun st=>h.set (jn x n c) (n+1) st (zfk n c h.x64));have Hx:=hid (zfr x n c h.x64);obtain⟨hb,hbase,hlt,hc0,hc1,hc2,hf0,hf1,hf2,hx64⟩:=h;clear hb hbase hlt hx64;have k1:((c:Int) == 0)=true:=by rw[beq_iff_eq];omega
 have k2:decide (1<(c:Int))=false:=by rw[decide_eq_false_iff_not];omega
 have k3:decide (1<(n:Int)+1)=false:=by rw[decide_eq_false_iff_not];omega
 have k5:decide ((c:Int)<128)=true:=by rw[decide_eq_true_iff];omega
 have ka:=zfq c hc;clear h1 h2;go_enter Tryz.func98,Tryz.ntmps98;go_wp2;go_region
 go_wp2;rw[Hx.out];go_ret;exact⟨rfl,(H.out 1).drew⟩
theorem zzh (w0 w:World) (g x n c:Nat) (h:RdV w0 w g x n 0) (hc:c<256) (hn10:n<10) (h1:c=0) (h2:0<n):
 Calls Tryz.prog 98 #[.pointer (some ⟨g,0,none⟩),.int .u8 c] w fun e w'=>e=.returned (.int .i64 (2:Nat))∧RdV w0 w' g (jn x n c) (n+1) 2:=by
 have H:=hid (fun st=>h.set (jn x n c) (n+1) st (zfk n c h.x64));have Hx:=hid (zfr x n c h.x64);obtain⟨hb,hbase,hlt,hc0,hc1,hc2,hf0,hf1,hf2,hx64⟩:=h;clear hb hbase hlt hx64;have k1:((c:Int) == 0)=true:=by rw[beq_iff_eq];omega
 have k2:decide (1<(c:Int))=false:=by rw[decide_eq_false_iff_not];omega
 have k3:decide (1<(n:Int)+1)=true:=by rw[decide_eq_true_iff];omega
 have k5:decide ((c:Int)<128)=true:=by rw[decide_eq_true_iff];omega
 have ka:=zfq c hc;clear h1 h2;go_enter Tryz.func98,Tryz.ntmps98;go_wp2;go_region
 go_wp2;rw[Hx.out];go_ret;exact⟨rfl,(H.out 2).drew⟩
theorem zzi (w0 w:World) (g x n c:Nat) (h:RdV w0 w g x n 0) (hc:c<256) (hn10:n<10) (h1:c=1) (h2:n<10):
 Calls Tryz.prog 98 #[.pointer (some ⟨g,0,none⟩),.int .u8 c] w fun e w'=>e=.returned (.int .i64 (1:Nat))∧RdV w0 w' g (jn x n c) (n+1) 1:=by
 have H:=hid (fun st=>h.set (jn x n c) (n+1) st (zfk n c h.x64));have Hx:=hid (zfr x n c h.x64);obtain⟨hb,hbase,hlt,hc0,hc1,hc2,hf0,hf1,hf2,hx64⟩:=h;clear hb hbase hlt hx64;have k1:((c:Int) == 0)=false:=by rw[beq_eq_false_iff_ne];omega
 have k2:decide (1<(c:Int))=false:=by rw[decide_eq_false_iff_not];omega
 have k5:decide ((c:Int)<128)=true:=by rw[decide_eq_true_iff];omega
 have ka:=zfq c hc;clear h1 h2;go_enter Tryz.func98,Tryz.ntmps98;go_wp2;go_region
 go_wp2;rw[Hx.out];go_ret;exact⟨rfl,(H.out 1).drew⟩
theorem zzj (w0 w:World) (g x n c:Nat) (h:RdV w0 w g x n 0) (hc:c<256) (hn10:n<10) (h1:1<c∧c<128) (h2:n=9):
 Calls Tryz.prog 98 #[.pointer (some ⟨g,0,none⟩),.int .u8 c] w fun e w'=>e=.returned (.int .i64 (2:Nat))∧RdV w0 w' g (jn x n c) (n+1) 2:=by
 have H:=hid (fun st=>h.set (jn x n c) (n+1) st (zfk n c h.x64));have Hx:=hid (zfr x n c h.x64);obtain⟨hb,hbase,hlt,hc0,hc1,hc2,hf0,hf1,hf2,hx64⟩:=h;clear hb hbase hlt hx64;have k1:((c:Int) == 0)=false:=by rw[beq_eq_false_iff_ne];omega
 have k2:decide (1<(c:Int))=true:=by rw[decide_eq_true_iff];omega
 have k4:((n:Int)+1 == 10)=true:=by rw[beq_iff_eq];omega
 have k5:decide ((c:Int)<128)=true:=by rw[decide_eq_true_iff];omega
 have ka:=zfq c hc;clear h1 h2;go_enter Tryz.func98,Tryz.ntmps98;go_wp2;go_region
 go_wp2;rw[Hx.out];go_ret;exact⟨rfl,(H.out 2).drew⟩
theorem zzk (w0 w:World) (g x n c:Nat) (h:RdV w0 w g x n 0) (hc:c<256) (hn10:n<10) (h1:1<c∧c<128) (h2:n<9):
 Calls Tryz.prog 98 #[.pointer (some ⟨g,0,none⟩),.int .u8 c] w fun e w'=>e=.returned (.int .i64 (1:Nat))∧RdV w0 w' g (jn x n c) (n+1) 1:=by
 have H:=hid (fun st=>h.set (jn x n c) (n+1) st (zfk n c h.x64));have Hx:=hid (zfr x n c h.x64);obtain⟨hb,hbase,hlt,hc0,hc1,hc2,hf0,hf1,hf2,hx64⟩:=h;clear hb hbase hlt hx64;have k1:((c:Int) == 0)=false:=by rw[beq_eq_false_iff_ne];omega
 have k2:decide (1<(c:Int))=true:=by rw[decide_eq_true_iff];omega
 have k4:((n:Int)+1 == 10)=false:=by rw[beq_eq_false_iff_ne];omega
 have k5:decide ((c:Int)<128)=true:=by rw[decide_eq_true_iff];omega
 have ka:=zfq c hc;clear h1 h2;go_enter Tryz.func98,Tryz.ntmps98;go_wp2;go_region
 go_wp2;rw[Hx.out];go_ret;exact⟨rfl,(H.out 1).drew⟩
theorem zzl (w0 w:World) (g x n c:Nat) (h:RdV w0 w g x n 0) (hc:c<256) (hn10:n<10) (h1:128≤c) (h2:n=9):
 Calls Tryz.prog 98 #[.pointer (some ⟨g,0,none⟩),.int .u8 c] w fun e w'=>e=.returned (.int .i64 (2:Nat))∧RdV w0 w' g (jn x n c) (n+1) 2:=by
 have H:=hid (fun st=>h.set (jn x n c) (n+1) st (zfk n c h.x64));have Hx:=hid (zfr x n c h.x64);obtain⟨hb,hbase,hlt,hc0,hc1,hc2,hf0,hf1,hf2,hx64⟩:=h;clear hb hbase hlt hx64;have k1:((c:Int) == 0)=false:=by rw[beq_eq_false_iff_ne];omega
 have k2:decide (1<(c:Int))=true:=by rw[decide_eq_true_iff];omega
 have k4:((n:Int)+1 == 10)=true:=by rw[beq_iff_eq];omega
 have k5:decide ((c:Int)<128)=false:=by rw[decide_eq_false_iff_not];omega
 have ka:=zfq c hc;clear h1 h2;go_enter Tryz.func98,Tryz.ntmps98;go_wp2;go_region
 go_wp2;rw[Hx.out];go_ret;exact⟨rfl,(H.out 2).drew⟩
theorem zzm (w0 w:World) (g x n c:Nat) (h:RdV w0 w g x n 0) (hc:c<256) (hn10:n<10) (h1:128≤c) (h2:n<9):
 Calls Tryz.prog 98 #[.pointer (some ⟨g,0,none⟩),.int .u8 c] w fun e w'=>e=.returned (.int .i64 (0:Nat))∧RdV w0 w' g (jn x n c) (n+1) 0:=by
 have H:=hid (fun st=>h.set (jn x n c) (n+1) st (zfk n c h.x64));have Hx:=hid (zfr x n c h.x64);obtain⟨hb,hbase,hlt,hc0,hc1,hc2,hf0,hf1,hf2,hx64⟩:=h;clear hb hbase hlt hx64;have k1:((c:Int) == 0)=false:=by rw[beq_eq_false_iff_ne];omega
 have k2:decide (1<(c:Int))=true:=by rw[decide_eq_true_iff];omega
 have k4:((n:Int)+1 == 10)=false:=by rw[beq_eq_false_iff_ne];omega
 have k5:decide ((c:Int)<128)=false:=by rw[decide_eq_false_iff_not];omega
 have ka:=zfq c hc;clear h1 h2;go_enter Tryz.func98,Tryz.ntmps98;go_wp2;go_region
 go_wp2;rw[Hx.out];go_ret;exact⟨rfl,(H.out 0).drew⟩
theorem zzn (w0 w:World) (g x n c:Nat) (h:RdV w0 w g x n 0) (hc:c<256) (hn10:n<10):
 Calls Tryz.prog 98 #[.pointer (some ⟨g,0,none⟩),.int .u8 c] w fun e w'=>e=.returned (.int .i64 (qc n c:Nat))∧RdV w0 w' g (jn x n c) (n+1) (qc n c):=by
 by_cases c0:c=0
 · by_cases n0:n=0
   · rw[show qc n c=1 from by unfold qc;rw[if_neg (by omega),if_pos (by omega)]];exact zzg w0 w g x n c h hc hn10 c0 n0
   · rw[show qc n c=2 from by unfold qc;rw[if_pos (by omega)]];exact zzh w0 w g x n c h hc hn10 c0 (by omega)
 by_cases c1:c=1
 · rw[show qc n c=1 from by unfold qc;rw[if_neg (by omega),if_pos (by omega)]];exact zzi w0 w g x n c h hc hn10 c1 hn10
 by_cases c128:c<128
 · by_cases n9:n=9
   · rw[show qc n c=2 from by unfold qc;rw[if_pos (by omega)]];exact zzj w0 w g x n c h hc hn10 (by omega) n9
   · rw[show qc n c=1 from by unfold qc;rw[if_neg (by omega),if_pos (by omega)]];exact zzk w0 w g x n c h hc hn10 (by omega) (by omega)
 · by_cases n9:n=9
   · rw[show qc n c=2 from by unfold qc;rw[if_pos (by omega)]];exact zzl w0 w g x n c h hc hn10 (by omega) n9
   · rw[show qc n c=0 from by unfold qc;rw[if_neg (by omega),if_neg (by omega)]];exact zzm w0 w g x n c h hc hn10 (by omega) (by omega)
theorem zzo (w0 w:World) (g x n:Nat) (h:RdV w0 w g x n 1):
 Calls Tryz.prog 99 #[.pointer (some ⟨g,0,none⟩)] w fun e w'=>e=.returned (.int .u64 (x:Int))∧w=w':=by
 obtain⟨hb,hbase,hlt,hc0,hc1,hc2,hf0,hf1,hf2,hx64⟩:=h;clear hb hbase hlt hx64;go_enter Tryz.func99,Tryz.ntmps99;go_wp2;go_ret;exact⟨rfl,rfl⟩
theorem zzp (w0 w:World) (g x n st:Nat) (h:RdV w0 w g x n st):
 Calls Tryz.prog 100 #[.pointer (some ⟨g,0,none⟩)] w fun e w'=>e=.returned (.int .i64 (n:Int))∧w=w':=by
 obtain⟨hb,hbase,hlt,hc0,hc1,hc2,hf0,hf1,hf2,hx64⟩:=h;clear hb hbase hlt hx64;go_enter Tryz.func100,Tryz.ntmps100;go_wp2;go_ret;exact⟨rfl,rfl⟩
end
section
open Go.RowKit Go.Sort
def zdk (s:Iv):List Value:=[.int .u64 ((s.1:Nat):Int),.int .u64 ((s.2:Nat):Int)]
def cfI (x y:Iv):Int:=Lib.compareInt (x.1:Int) (y.1:Int)
theorem ltI (x y:Iv):ltOf cfI x y=decide (x.1<y.1):=by
 unfold ltOf cfI Lib.compareInt;by_cases h1:x.1<y.1
 · simp[h1]
 · by_cases h2:y.1<x.1
   · simp[h1,h2]
   · simp[h1,h2]
theorem zqk:SWO (ltOf cfI) where
 irrefl x:=by rw[ltI];simp
 trans x y z h1 h2:=by rw[ltI] at *;simp at *;omega
 ntrans x y z h1 h2:=by rw[ltI] at *;simp at *;omega
theorem zzq {d d':Array Iv} (h:PermIn 0 d.size d d'):d'.toList.Perm d.toList:=by
 obtain⟨h1,_,h3⟩:=h;rw[Array.extract_eq_self_of_le (by omega),Array.extract_eq_self_of_le (by omega)] at h3;exact h3
theorem zzr {d:Array Iv} {d':Array Iv} (hs:d'.size=d.size) (h:SortedIn (ltOf cfI) 0 d.size d'):zfp d'.toList:=by
 intro i j hij hj;have hj':j<d'.size:=by simpa using hj
 have:=h i j (Nat.zero_le _) hij (by omega);rw[ltI] at this;have e1:zb d'.toList i=d'[i]! :=by rw[qf (by simp;omega)];simp[getElem!_pos d' i (by omega)]
 have e2:zb d'.toList j=d'[j]! :=by rw[qf hj];simp[getElem!_pos d' j hj']
 rw[e1,e2];simp at this;omega
theorem zql {w:World} {base n cap g:Nat} {T:TypeId} {l:List Iv} (h:w.ownsRow base T 2 (.slice (some ⟨g,0,none⟩) n cap) n (ivC l)):HoldsK zdk 2 w g 0 l.toArray:=by
 have hlen:l.length=n:=by have:=h.1;rw[zd1] at this;omega
 intro j hj;rw[size_flatK] at hj;have hj':j<l.length*2:=by simpa using hj
 have hi:j / 2<l.length:=by omega
 refine⟨?_,by rw[Nat.zero_add];exact h.frozenAt j⟩;rw[Nat.zero_add,h.cellAt j (by omega)];obtain⟨e1,e2⟩:=zd2 l (j / 2) hi;rw[get_flatK _ _ _ _ (by simpa using hj')];have e:l.toArray[j / 2]! =zb l (j / 2):=by rw[qf hi];simp[hi]
 rw[e];rcases Nat.mod_two_eq_zero_or_one j with hm | hm
 · rw[show j / 2*2=j by omega] at e1;rw[e1,hm];rfl
 · rw[show j / 2*2+1=j by omega] at e2;rw[e2,hm];rfl
theorem zzs {w:World} {base g n:Nat} (d':Array Iv) (os:Array Obj) (hg:base≤g) (hw:base≤w.heap.size):Below base w (sortWorldK zdk 2 w g 0 n d' os):=by
 refine⟨rfl,rfl,rfl,?_,?_⟩
 · simp[sortWorldK,grow,putRowK,putRow,mapBlock]
 · intro k hk;simp only[sortWorldK,grow,putRowK,putRow,mapBlock,heap_ahead];rw[Array.getElem?_append_left (by simp;omega),Array.getElem?_modify,if_neg (by omega)]
theorem zzt {w:World} {g n m:Nat} {d d':Array Iv} (os:Array Obj) (hH:HoldsK zdk 2 w g 0 d) (hs:d'.size=d.size) (hg:g<w.heap.size) (hlt:∀s∈d'.toList,s.1<18446744073709551616∧s.2<18446744073709551616) (hn:d.size=n) (hm:n≤9223372036854775807):
 Ivs (sortWorldK zdk 2 w g 0 m d' os) (some ⟨g,0,none⟩) n n d'.toList:=by
 have h:=holdsK_sortWorldK_c zdk 2 w g 0 d d' m os hH hg hs;refine⟨by simp[hs,hn],hlt,Nat.le_refl _,hm,(by intro h;cases h),fun _=>⟨g,0,rfl,fun i hi=>?_⟩⟩;have hi':i<d'.size:=by omega
 have e:zb d'.toList i=d'[i]! :=by rw[qf (by simpa using hi')];simp[getElem!_pos d' i hi']
 have c0:=(h.cell (i:=i) (c:=0) hi' (by omega)).1;have c1:=(h.cell (i:=i) (c:=1) hi' (by omega)).1;rw[e];exact⟨c0,c1⟩
end
section
open Go.RowKit Go.Shelf
def zms {α:Type} (n:Nat) (P:Program) (g:Nat) (lb:Array Value) (encs:α→Array Value) (V S:List α→Prop) (R p:Nat→Prop) (w:World):Prop:=
 ∀(l:Nat) (J Jx:List α→World→Prop) (W:World),w.heap.size≤l→Below w.heap.size w W→
  (∀s A B,J s A→Kept (fun k=>¬R k) A B→J s B)→(∀s A B,Jx s A→Kept (fun k=>¬R k) A B→Jx s B)→
  (∀pre x W1,V (pre++[x])→J pre W1→YieldAt Fence.wide (n - 1) P l (encs x) W1 fun e W'=>
    (e=.returned (.bool true)∧J (pre++[x]) W'∧Kept p W1 W')∨(e=.returned (.bool false)∧Jx (pre++[x]) W'))→
  J [] W→
  CallsIn Fence.wide n P g (#[.func (.yield l) #[] #[]]++lb) W fun e W'=>(∃v,e=.returned v)∧((∃xs,S xs∧J xs W')∨(∃pre,V pre∧Jx pre W'))
def zzu {α:Type} (D:Nat) (p:Nat→Prop) (I:List α→World→Prop) (Ix:Code→List α→World→Prop) (xs:List α) (W:World):Exit→Act→World→Prop
 | .normal,_,W'=>Kept (fun k=>p k∨k=D∨k=D+1) W W'∧I xs W'
 | .ret,_,W'=>Kept (fun k=>k=D∨k=D+1) W W'∧Ix .ret xs W'
 | .exit id,_,W'=>Kept (fun k=>k=D∨k=D+1) W W'∧Ix (.exit id) xs W'
 | .goto t,_,W'=>Kept (fun k=>k=D∨k=D+1) W W'∧Ix (.goto t) xs W'
 | .panic _,_,_=>False
 | .outgrown,_,_=>False
theorem zhp {α:Type} {n:Nat} {P:Program} {g:Operand} {ps:Array Tmp} {assign body:Code} {Q:Exit→Act→World→Prop} {a:Act} {w:World}
 {gf:Nat} {lb:Array Value} (hg:a.eval g=.func (.func gf) #[] lb) (eg:∀args w,(callFunc gf args).run P w=.ok (.enter gf args) w)
 {encs:α→Array Value} {V S:List α→Prop} {R p:Nat→Prop} (hseq:zms (n - 1) P gf lb encs V S R p w) (hps:∀x,(encs x).size=ps.size)
 (hR:∀k,R k→k<w.heap.size) (hp:∀k,p k→k<w.heap.size)
 (I:List α→World→Prop) (Ix:Code→List α→World→Prop)
 (hI:∀s A B,I s A→Kept (fun k=>¬R k∧k≠w.heap.size∧k≠w.heap.size+1) A B→I s B)
 (hIx:∀c s A B,Ix c s A→Kept (fun k=>¬R k∧k≠w.heap.size∧k≠w.heap.size+1) A B→Ix c s B)
 (h0:I [] w)
 (hround:∀pre x W,V (pre++[x])→I pre W→w.heap.size+2≤W.heap.size→
   assign.wpIn (Fence.wide.inRound (w.heap.size+1)) (n - 1 - 1) P (Exit.then (fun a₁ W₁=>Kept (fun k=>p k∨k=w.heap.size∨k=w.heap.size+1) W W₁∧
    ∀W₂,Kept (fun k=>k≠w.heap.size+1) W₁ W₂→W₂.heap.size=W₁.heap.size→body.wpIn (Fence.wide.inRound (w.heap.size+1)) (n - 1 - 1) P (zzu w.heap.size p I Ix (pre++[x]) W₂) a₁ W₂) (fun _ _ _=>False))
    { tmps:=(ps.zip (encs x)).foldl (fun t (u,v)=>t.setIfInBounds u v) a.tmps,defers:=[] } W)
 (hdone:∀(xs:List α) (W:World),S xs→I xs W→W.heap[w.heap.size]?=some (.deferred (some []))→Q .normal { a with defers:={ target:=.collected w.heap.size,args:= #[] } :: a.defers } W)
 (hstop:∀(c:Code) (pre:List α) (W:World),V pre→Ix c pre W→W.heap[w.heap.size]?=some (.deferred (some []))→c.wpIn Fence.wide n P Q { a with defers:={ target:=.collected w.heap.size,args:= #[] } :: a.defers } W):
 (Code.rangeFunc g ps assign body).wpIn Fence.wide n P Q a w:=by
 refine wpIn_rangeFunc fun fn hfn=>?_
 obtain⟨D,hD⟩:∃D,D=w.heap.size:=⟨_,rfl⟩;obtain⟨rec,hrec⟩:∃rec:LoopState→Option Code→Loop,rec=fun st pe=>{ state:=st,pending:=pe,fn,tmps:=a.tmps,params:=ps,assign,body,defers:=D }:=⟨_,rfl⟩
 obtain⟨W1,hW1⟩:∃W1,(w.alloc (.deferred (some []))).alloc (.loop (rec .ready none))=W1:=⟨_,rfl⟩;have hsize:W1.heap.size=D+2:=by rw[←hW1,hD];simp
 have hL:W1.heap[D+1]?=some (.loop (rec .ready none)):=by
  rw[←hW1,hD];have h:=World.alloc_heap_new (w.alloc (.deferred (some []))) (.loop (rec .ready none));rwa [World.size_alloc] at h
 have hK:W1.heap[D]?=some (.deferred (some [])):=by
  rw[←hW1,hD];exact(Below.heap_alloc _ _ _ (by simp)).trans (World.alloc_heap_new w _)
 have hkW:Kept (fun _=>True) w W1:=by rw[←hW1];exact((Kept.refl _ w).alloc _).alloc _
 have hI1:I [] W1:=hI _ _ _ h0 (hkW.mono fun _ _ _=>trivial)
 refine⟨D+1,[{ target:=.collected D,args:= #[] }],W1,{ target:=.fn (.func gf) lb,args:= #[.func (.yield (D+1)) #[] #[]] },W1,gf,
  #[.func (.yield (D+1)) #[] #[]]++lb,W1,?_,?_,fun _ _=>trivial,?_,(fun h=>by cases h),?_⟩
 · rw[←hW1,hrec,hD];exact run_enterLoop_outer _ _ _ _ _
 · simp only[resolve,hg];simp[go_sem]
 · simp[invoke,go_sem,eg]
 have hbook:∀{A B:World},Kept (fun k=>¬R k) A B→Kept (fun k=>¬R k∧k≠w.heap.size∧k≠w.heap.size+1) A B:=fun h=>h.mono fun k _ hk=>hk.1
 have hnR:¬R D∧¬R (D+1):=⟨fun h=>by have:=hR _ h;omega,fun h=>by have:=hR _ h;omega⟩;have hnp:¬p D∧¬p (D+1):=⟨fun h=>by have:=hp _ h;omega,fun h=>by have:=hp _ h;omega⟩
 have hrow:∀{A B:World} {k:Nat} {o:Obj} {u:Nat→Prop},Kept u A B→u k→A.heap[k]?=some o→B.heap[k]?=some o:=fun h hu ho=>
  (h.row _ (Array.getElem?_eq_some_iff.1 ho).1 hu).trans ho
 have hturn:∀{s:List α} {A:World} {o:Obj},I s A→I s (A.putObj (D+1) o):=fun {s A o} h=>hI _ _ _ h ((Kept.refl _ A).putObj (fun _ e=>e.2.2 (by rw[hD])) o)
 have hturnx:∀{c:Code} {s:List α} {A:World} {o:Obj},Ix c s A→Ix c s (A.putObj (D+1) o):=fun {c s A o} h=>hIx _ _ _ _ h ((Kept.refl _ A).putObj (fun _ e=>e.2.2 (by rw[hD])) o)
 refine(hseq (D+1)
  (fun pre W=>I pre W∧W.heap[D+1]?=some (.loop (rec .ready none))∧W.heap[D]?=some (.deferred (some []))∧D+2≤W.heap.size)
  (fun pre W=>∃c,Ix c pre W∧W.heap[D+1]?=some (.loop (rec .done (some c)))∧W.heap[D]?=some (.deferred (some [])))
  W1 (by omega) (hkW.toBelow (fun _ _=>trivial) (Nat.le_refl _))
  (fun s A B hs h=>⟨hI _ _ _ hs.1 (hbook h),hrow h hnR.2 hs.2.1,hrow h hnR.1 hs.2.2.1,Nat.le_trans hs.2.2.2 h.size⟩)
  (fun s A B hs h=>by obtain⟨c,h1,h2,h3⟩:=hs;exact⟨c,hIx _ _ _ _ h1 (hbook h),hrow h hnR.2 h2,hrow h hnR.1 h3⟩)
  ?_ ⟨hI1,hL,hK,by omega⟩).mono ?_
 · rintro pre x W hV ⟨hi,hl,hk,hsz⟩;have hy:=run_yield (P:=P) (args:=encs x) hl (by rw[hrec];exact hps x);rw[hrec] at hy;refine⟨fn,_,assign,body,hy,roundIn_of_wpIn hfn ?_⟩;rw[hD];refine wpIn_mono (hround pre x W hV hi (by omega)) ?_;rintro e a₁ Wa hq
   cases e with
   | normal=>
    obtain⟨hka,hbody⟩:=hq;have hl1:Wa.heap[D+1]?=some (.loop (rec .ready none)):=hrow hka (by rw[hD];exact .inr (.inr rfl)) hl;have hk1:Wa.heap[D]?=some (.deferred (some [])):=hrow hka (by rw[hD];exact .inr (.inl rfl)) hk;rw[←hD];refine⟨_,run_beginRound hl1 (by rw[hrec]),?_⟩;obtain⟨Wb,hWb⟩:∃Wb,Wb=Wa.putObj (D+1) (.loop { rec .ready none with state:=.busy }):=⟨_,rfl⟩;rw[←hWb];have hlt:D+1<Wa.heap.size:=(Array.getElem?_eq_some_iff.1 hl1).1;have hl2:Wb.heap[D+1]?=some (.loop { rec .ready none with state:=.busy }):=by rw[hWb];exact World.putObj_heap_same hlt
    have hk2:Wb.heap[D]?=some (.deferred (some [])):=by rw[hWb];exact(World.putObj_heap_other (by omega)).trans hk1
    have hab:Kept (fun k=>k≠w.heap.size+1) Wa Wb:=by rw[hWb];exact(Kept.refl _ Wa).putObj (fun _ e=>e (by rw[hD])) _
    have hb2:=hbody Wb hab (by rw[hWb];simp);rw[←hD] at hb2;refine wpIn_mono hb2 ?_
    have fin:∀(jump:Option Code) (W3:World),Kept (fun k=>k=D∨k=D+1) Wb W3→
     (Instr.endRound (D+1) jump).run P W3=.ok (.bool jump.isNone) (W3.putObj (D+1) (.loop (rec (if jump.isNone then .ready else .done) jump)))∧
     (W3.putObj (D+1) (.loop (rec (if jump.isNone then .ready else .done) jump))).heap[D+1]?=some (.loop (rec (if jump.isNone then .ready else .done) jump))∧
     (W3.putObj (D+1) (.loop (rec (if jump.isNone then .ready else .done) jump))).heap[D]?=some (.deferred (some []))∧D+2≤W3.heap.size:=by
     intro jump W3 h3;have hl3:=hrow h3 (.inr rfl) hl2;have hk3:=hrow h3 (.inl rfl) hk2;have hlt3:=(Array.getElem?_eq_some_iff.1 hl3).1;have hr:=run_endRound (P:=P) jump hl3;rw[hrec] at hr ⊢;exact⟨hr,World.putObj_heap_same hlt3,(World.putObj_heap_other (by omega)).trans hk3,by omega⟩
    have small:∀{W3:World},Kept (fun k=>p k∨k=D∨k=D+1) Wb W3→Kept (fun k=>k=D∨k=D+1) Wb W3:=fun h=>h.mono fun _ _ hk=>.inr hk
    rintro e a3 W3 hp3
    cases e with
    | normal=>
     obtain⟨h3,hi3⟩:=hp3;obtain⟨e1,e2,e3,e4⟩:=fin none W3 (small h3);refine⟨_,_,e1,.inl ⟨rfl,⟨hturn hi3,e2,e3,by simpa using e4⟩,?_⟩⟩;have k1:Kept p W Wa:=hka.mono fun _ _ hk=>.inl hk
     have k2:Kept p Wa Wb:=hab.mono fun k _ hk e=>hnp.2 (by rw[hD];exact e ▸ hk)
     have k3:Kept p Wb W3:=h3.mono fun _ _ hk=>.inl hk
     exact((k1.trans k2).trans k3).putObj (fun _ hk=>hnp.2 hk) _
    | ret=>
     obtain⟨h3,hi3⟩:=hp3;obtain⟨e1,e2,e3,_⟩:=fin (some .ret) W3 h3
     exact⟨_,_,e1,.inr ⟨rfl,.ret,hturnx hi3,e2,e3⟩⟩
    | exit id=>
     obtain⟨h3,hi3⟩:=hp3;obtain⟨e1,e2,e3,_⟩:=fin (some (.exit id)) W3 h3
     exact⟨_,_,e1,.inr ⟨rfl,.exit id,hturnx hi3,e2,e3⟩⟩
    | goto t=>
     obtain⟨h3,hi3⟩:=hp3;obtain⟨e1,e2,e3,_⟩:=fin (some (.goto t)) W3 h3
     exact⟨_,_,e1,.inr ⟨rfl,.goto t,hturnx hi3,e2,e3⟩⟩
    | panic ch=>exact hp3.elim
    | outgrown=>exact hp3.elim
   | exit id=>exact hq.elim
   | goto t=>exact hq.elim
   | ret=>exact hq.elim
   | panic ch=>exact hq.elim
   | outgrown=>exact hq.elim
 · rintro e W2 ⟨⟨v,rfl⟩,(⟨xs,hS,hi,hl,hk,_⟩ | ⟨pre,hV,c,hi,hl,hk⟩)⟩
   · have hr:=run_endLoop (P:=P) hl (by rw[hrec];simp);rw[hrec] at hr;refine⟨none,_,hr,?_⟩;have:=hdone xs _ hS (hturn hi (o:=.loop { rec .ready none with state:=.exhausted })) (by rw[←hD];exact(World.putObj_heap_other (by omega)).trans hk);rw[hrec] at this;rw[hD] at this ⊢;exact this
   · have hr:=run_endLoop (P:=P) hl (by rw[hrec];simp);rw[hrec] at hr;refine⟨some c,_,hr,?_⟩;have:=hstop c pre _ hV (hturnx hi (o:=.loop { rec .done (some c) with state:=.exhausted })) (by rw[←hD];exact(World.putObj_heap_other (by omega)).trans hk);rw[hrec] at this;rw[hD] at this ⊢;exact this
def zqm {α:Type} (n:Nat) (P:Program) (g:Nat) (lb:Array Value) (encs:α→Array Value) (V S:List α→Prop) (R:Nat→Prop) (Rel:World→World→Prop) (w:World):Prop:=
 ∀(l:Nat) (J Jx:List α→World→Prop) (W:World),w.heap.size≤l→Below w.heap.size w W→
  (∀s A B,J s A→Kept (fun k=>¬R k) A B→J s B)→(∀s A B,Jx s A→Kept (fun k=>¬R k) A B→Jx s B)→
  (∀pre x W1,V (pre++[x])→J pre W1→YieldAt Fence.wide (n - 1) P l (encs x) W1 fun e W'=>
    (e=.returned (.bool true)∧J (pre++[x]) W'∧Rel W1 W')∨(e=.returned (.bool false)∧Jx (pre++[x]) W'))→
  J [] W→
  CallsIn Fence.wide n P g (#[.func (.yield l) #[] #[]]++lb) W fun e W'=>(∃v,e=.returned v)∧((∃xs,S xs∧J xs W')∨(∃pre,V pre∧Jx pre W'))
def zzv {α:Type} (D:Nat) (Rel:World→World→Prop) (I:List α→World→Prop) (Ix:Code→List α→World→Prop) (xs:List α) (W0 W:World):Exit→Act→World→Prop
 | .normal,_,W'=>Kept (fun k=>k=D∨k=D+1) W W'∧I xs W'∧Rel W0 W'
 | .ret,_,W'=>Kept (fun k=>k=D∨k=D+1) W W'∧Ix .ret xs W'
 | .exit id,_,W'=>Kept (fun k=>k=D∨k=D+1) W W'∧Ix (.exit id) xs W'
 | .goto t,_,W'=>Kept (fun k=>k=D∨k=D+1) W W'∧Ix (.goto t) xs W'
 | .panic _,_,_=>False
 | .outgrown,_,_=>False
theorem zzw {α:Type} {n:Nat} {P:Program} {g:Operand} {ps:Array Tmp} {assign body:Code} {Q:Exit→Act→World→Prop} {a:Act} {w:World}
 {gf:Nat} {lb:Array Value} (hg:a.eval g=.func (.func gf) #[] lb) (eg:∀args w,(callFunc gf args).run P w=.ok (.enter gf args) w)
 {encs:α→Array Value} {V S:List α→Prop} {R:Nat→Prop} {Rel:World→World→Prop} (hseq:zqm (n - 1) P gf lb encs V S R Rel w) (hps:∀x,(encs x).size=ps.size)
 (hR:∀k,R k→k<w.heap.size) (hput:∀(A B:World) (r:Loop) (o:Obj),A.heap[w.heap.size+1]?=some (.loop r)→Rel A B→Rel A (B.putObj (w.heap.size+1) o))
 (I:List α→World→Prop) (Ix:Code→List α→World→Prop)
 (hI:∀s A B,I s A→Kept (fun k=>¬R k∧k≠w.heap.size∧k≠w.heap.size+1) A B→I s B)
 (hIx:∀c s A B,Ix c s A→Kept (fun k=>¬R k∧k≠w.heap.size∧k≠w.heap.size+1) A B→Ix c s B)
 (h0:I [] w)
 (hround:∀pre x W,V (pre++[x])→I pre W→w.heap.size+2≤W.heap.size→(∃r,W.heap[w.heap.size+1]?=some (.loop r))→
   assign.wpIn (Fence.wide.inRound (w.heap.size+1)) (n - 1 - 1) P (Exit.then (fun a₁ W₁=>Kept (fun k=>k=w.heap.size∨k=w.heap.size+1) W W₁∧
    ∀W₂,Kept (fun k=>k≠w.heap.size+1) W₁ W₂→W₂.heap.size=W₁.heap.size→body.wpIn (Fence.wide.inRound (w.heap.size+1)) (n - 1 - 1) P (zzv w.heap.size Rel I Ix (pre++[x]) W W₂) a₁ W₂) (fun _ _ _=>False))
    { tmps:=(ps.zip (encs x)).foldl (fun t (u,v)=>t.setIfInBounds u v) a.tmps,defers:=[] } W)
 (hdone:∀(xs:List α) (W:World),S xs→I xs W→W.heap[w.heap.size]?=some (.deferred (some []))→Q .normal { a with defers:={ target:=.collected w.heap.size,args:= #[] } :: a.defers } W)
 (hstop:∀(c:Code) (pre:List α) (W:World),V pre→Ix c pre W→W.heap[w.heap.size]?=some (.deferred (some []))→c.wpIn Fence.wide n P Q { a with defers:={ target:=.collected w.heap.size,args:= #[] } :: a.defers } W):
 (Code.rangeFunc g ps assign body).wpIn Fence.wide n P Q a w:=by
 refine wpIn_rangeFunc fun fn hfn=>?_
 obtain⟨D,hD⟩:∃D,D=w.heap.size:=⟨_,rfl⟩;obtain⟨rec,hrec⟩:∃rec:LoopState→Option Code→Loop,rec=fun st pe=>{ state:=st,pending:=pe,fn,tmps:=a.tmps,params:=ps,assign,body,defers:=D }:=⟨_,rfl⟩
 obtain⟨W1,hW1⟩:∃W1,(w.alloc (.deferred (some []))).alloc (.loop (rec .ready none))=W1:=⟨_,rfl⟩;have hsize:W1.heap.size=D+2:=by rw[←hW1,hD];simp
 have hL:W1.heap[D+1]?=some (.loop (rec .ready none)):=by
  rw[←hW1,hD];have h:=World.alloc_heap_new (w.alloc (.deferred (some []))) (.loop (rec .ready none));rwa [World.size_alloc] at h
 have hK:W1.heap[D]?=some (.deferred (some [])):=by
  rw[←hW1,hD];exact(Below.heap_alloc _ _ _ (by simp)).trans (World.alloc_heap_new w _)
 have hkW:Kept (fun _=>True) w W1:=by rw[←hW1];exact((Kept.refl _ w).alloc _).alloc _
 have hI1:I [] W1:=hI _ _ _ h0 (hkW.mono fun _ _ _=>trivial)
 refine⟨D+1,[{ target:=.collected D,args:= #[] }],W1,{ target:=.fn (.func gf) lb,args:= #[.func (.yield (D+1)) #[] #[]] },W1,gf,
  #[.func (.yield (D+1)) #[] #[]]++lb,W1,?_,?_,fun _ _=>trivial,?_,(fun h=>by cases h),?_⟩
 · rw[←hW1,hrec,hD];exact run_enterLoop_outer _ _ _ _ _
 · simp only[resolve,hg];simp[go_sem]
 · simp[invoke,go_sem,eg]
 have hbook:∀{A B:World},Kept (fun k=>¬R k) A B→Kept (fun k=>¬R k∧k≠w.heap.size∧k≠w.heap.size+1) A B:=fun h=>h.mono fun k _ hk=>hk.1
 have hnR:¬R D∧¬R (D+1):=⟨fun h=>by have:=hR _ h;omega,fun h=>by have:=hR _ h;omega⟩
 have hrow:∀{A B:World} {k:Nat} {o:Obj} {u:Nat→Prop},Kept u A B→u k→A.heap[k]?=some o→B.heap[k]?=some o:=fun h hu ho=>
  (h.row _ (Array.getElem?_eq_some_iff.1 ho).1 hu).trans ho
 have hturn:∀{s:List α} {A:World} {o:Obj},I s A→I s (A.putObj (D+1) o):=fun {s A o} h=>hI _ _ _ h ((Kept.refl _ A).putObj (fun _ e=>e.2.2 (by rw[hD])) o)
 have hturnx:∀{c:Code} {s:List α} {A:World} {o:Obj},Ix c s A→Ix c s (A.putObj (D+1) o):=fun {c s A o} h=>hIx _ _ _ _ h ((Kept.refl _ A).putObj (fun _ e=>e.2.2 (by rw[hD])) o)
 refine(hseq (D+1)
  (fun pre W=>I pre W∧W.heap[D+1]?=some (.loop (rec .ready none))∧W.heap[D]?=some (.deferred (some []))∧D+2≤W.heap.size)
  (fun pre W=>∃c,Ix c pre W∧W.heap[D+1]?=some (.loop (rec .done (some c)))∧W.heap[D]?=some (.deferred (some [])))
  W1 (by omega) (hkW.toBelow (fun _ _=>trivial) (Nat.le_refl _))
  (fun s A B hs h=>⟨hI _ _ _ hs.1 (hbook h),hrow h hnR.2 hs.2.1,hrow h hnR.1 hs.2.2.1,Nat.le_trans hs.2.2.2 h.size⟩)
  (fun s A B hs h=>by obtain⟨c,h1,h2,h3⟩:=hs;exact⟨c,hIx _ _ _ _ h1 (hbook h),hrow h hnR.2 h2,hrow h hnR.1 h3⟩)
  ?_ ⟨hI1,hL,hK,by omega⟩).mono ?_
 · rintro pre x W hV ⟨hi,hl,hk,hsz⟩;have hy:=run_yield (P:=P) (args:=encs x) hl (by rw[hrec];exact hps x);rw[hrec] at hy;refine⟨fn,_,assign,body,hy,roundIn_of_wpIn hfn ?_⟩;rw[hD];refine wpIn_mono (hround pre x W hV hi (by omega) ⟨_,by rw[←hD];exact hl⟩) ?_;rintro e a₁ Wa hq
   cases e with
   | normal=>
    obtain⟨hka,hbody⟩:=hq;have hl1:Wa.heap[D+1]?=some (.loop (rec .ready none)):=hrow hka (by rw[hD];exact .inr rfl) hl;have hk1:Wa.heap[D]?=some (.deferred (some [])):=hrow hka (by rw[hD];exact .inl rfl) hk;rw[←hD];refine⟨_,run_beginRound hl1 (by rw[hrec]),?_⟩;obtain⟨Wb,hWb⟩:∃Wb,Wb=Wa.putObj (D+1) (.loop { rec .ready none with state:=.busy }):=⟨_,rfl⟩;rw[←hWb];have hlt:D+1<Wa.heap.size:=(Array.getElem?_eq_some_iff.1 hl1).1;have hl2:Wb.heap[D+1]?=some (.loop { rec .ready none with state:=.busy }):=by rw[hWb];exact World.putObj_heap_same hlt
    have hk2:Wb.heap[D]?=some (.deferred (some [])):=by rw[hWb];exact(World.putObj_heap_other (by omega)).trans hk1
    have hab:Kept (fun k=>k≠w.heap.size+1) Wa Wb:=by rw[hWb];exact(Kept.refl _ Wa).putObj (fun _ e=>e (by rw[hD])) _
    have hb2:=hbody Wb hab (by rw[hWb];simp);rw[←hD] at hb2;refine wpIn_mono hb2 ?_
    have fin:∀(jump:Option Code) (W3:World),Kept (fun k=>k=D∨k=D+1) Wb W3→
     (Instr.endRound (D+1) jump).run P W3=.ok (.bool jump.isNone) (W3.putObj (D+1) (.loop (rec (if jump.isNone then .ready else .done) jump)))∧
     (W3.putObj (D+1) (.loop (rec (if jump.isNone then .ready else .done) jump))).heap[D+1]?=some (.loop (rec (if jump.isNone then .ready else .done) jump))∧
     (W3.putObj (D+1) (.loop (rec (if jump.isNone then .ready else .done) jump))).heap[D]?=some (.deferred (some []))∧D+2≤W3.heap.size:=by
     intro jump W3 h3;have hl3:=hrow h3 (.inr rfl) hl2;have hk3:=hrow h3 (.inl rfl) hk2;have hlt3:=(Array.getElem?_eq_some_iff.1 hl3).1;have hr:=run_endRound (P:=P) jump hl3;rw[hrec] at hr ⊢;exact⟨hr,World.putObj_heap_same hlt3,(World.putObj_heap_other (by omega)).trans hk3,by omega⟩
    rintro e a3 W3 hp3
    cases e with
    | normal=>
     obtain⟨h3,hi3,hr3⟩:=hp3;obtain⟨e1,e2,e3,e4⟩:=fin none W3 h3
     exact⟨_,_,e1,.inl ⟨rfl,⟨hturn hi3,e2,e3,by simpa using e4⟩,by rw[hD];exact hput _ _ _ _ (by rw[←hD];exact hl) hr3⟩⟩
    | ret=>
     obtain⟨h3,hi3⟩:=hp3;obtain⟨e1,e2,e3,_⟩:=fin (some .ret) W3 h3
     exact⟨_,_,e1,.inr ⟨rfl,.ret,hturnx hi3,e2,e3⟩⟩
    | exit id=>
     obtain⟨h3,hi3⟩:=hp3;obtain⟨e1,e2,e3,_⟩:=fin (some (.exit id)) W3 h3
     exact⟨_,_,e1,.inr ⟨rfl,.exit id,hturnx hi3,e2,e3⟩⟩
    | goto t=>
     obtain⟨h3,hi3⟩:=hp3;obtain⟨e1,e2,e3,_⟩:=fin (some (.goto t)) W3 h3
     exact⟨_,_,e1,.inr ⟨rfl,.goto t,hturnx hi3,e2,e3⟩⟩
    | panic ch=>exact hp3.elim
    | outgrown=>exact hp3.elim
   | exit id=>exact hq.elim
   | goto t=>exact hq.elim
   | ret=>exact hq.elim
   | panic ch=>exact hq.elim
   | outgrown=>exact hq.elim
 · rintro e W2 ⟨⟨v,rfl⟩,(⟨xs,hS,hi,hl,hk,_⟩ | ⟨pre,hV,c,hi,hl,hk⟩)⟩
   · have hr:=run_endLoop (P:=P) hl (by rw[hrec];simp);rw[hrec] at hr;refine⟨none,_,hr,?_⟩;have:=hdone xs _ hS (hturn hi (o:=.loop { rec .ready none with state:=.exhausted })) (by rw[←hD];exact(World.putObj_heap_other (by omega)).trans hk);rw[hrec] at this;rw[hD] at this ⊢;exact this
   · have hr:=run_endLoop (P:=P) hl (by rw[hrec];simp);rw[hrec] at hr;refine⟨some c,_,hr,?_⟩;have:=hstop c pre _ hV (hturnx hi (o:=.loop { rec .done (some c) with state:=.exhausted })) (by rw[←hD];exact(World.putObj_heap_other (by omega)).trans hk);rw[hrec] at this;rw[hD] at this ⊢;exact this
end
end Go.Proofs.YtdnjfnofjaoajaaGreatDoor
