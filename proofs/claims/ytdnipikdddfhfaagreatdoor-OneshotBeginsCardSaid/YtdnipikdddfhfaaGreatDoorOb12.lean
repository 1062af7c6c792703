/- Part 12. -/
import Derived.Test.YtdnipikdddfhfaaGreatDoorOb11
set_option linter.unusedVariables false
set_option maxHeartbeats 16000000
namespace Go.Proofs.YtdnipikdddfhfaaGreatDoor
open Lib (hid)
section
def yx (l:List Nat):zg:=fun p=>match zk (l.drop p) 0 0 with | (1,x,j)=>.ok (x,p+j) | (2,_,_)=>.error 6 | _=>.error 5
theorem zq0 {j c:Nat} (h:zi j c=0):128≤c∧¬(0<j∧c=0)∧j≠9:=by
 unfold zi at h;split at h
 · cases h
 · rename_i h1;split at h
   · cases h
   · exact⟨by omega,fun h2=>h1 (.inr h2),fun h2=>h1 (.inl ⟨h2,by omega⟩)⟩
theorem zq1 {j c:Nat} (h:zi j c=1):c<128∧(j=9→c≤1)∧(0<j→c≠0):=by
 unfold zi at h;split at h
 · cases h
 · rename_i h1;split at h
   · exact⟨by assumption,fun h2=>by
      rcases Nat.lt_or_ge 1 c with h3 | h3
      · exact absurd (.inl ⟨h2,h3⟩) h1
      · exact h3,fun h2 h3=>h1 (.inr ⟨h2,h3⟩)⟩
   · cases h
theorem zcu {x y k:Nat} (h:x<2 ^ k):x ||| (y*2 ^ k)=x+y*2 ^ k:=by
 have:=Nat.two_pow_add_eq_or_of_lt h y;rw[Nat.or_comm,Nat.mul_comm y,←this,Nat.add_comm]
theorem zi5 (j:Nat):2 ^ (7*(j+1))=128*2 ^ (7*j):=by rw[show 7*(j+1)=7*j+7 by omega,Nat.pow_add,Nat.mul_comm]
theorem zi6:∀(k j m x:Nat) (t:List Nat),j+k=9→m<2 ^ (7*k+1)→(0<j→0<m)→x<2 ^ (7*j)→x+m*2 ^ (7*j)<18446744073709551616→
 zk (vbF k m++t) j x=(1,x+m*2 ^ (7*j),j+(vbF k m).length)
 | 0,j,m,x,t,hj,hm,h0,hx,h64=>by
   have hm2:m<2:=by simpa using hm
   have e:vbF 0 m=[m]:=by simp[vbF];omega
   rw[e]
   have hs:zi j m=1:=by
    unfold zi;rw[if_neg (by omega),if_pos (by omega)]
   show zk (m :: t) j x=_;rw[zk,hs,if_neg (by omega),if_pos rfl]
   have:zu x j m=x+m*2 ^ (7*j):=by
    unfold zu;rw[Nat.mod_eq_of_lt (show m<128 by omega),Nat.mod_eq_of_lt (by omega),zcu hx]
   rw[this];rfl
 | k+1,j,m,x,t,hj,hm,h0,hx,h64=>by
   rw[zac];by_cases h:m<128
   · rw[if_pos h]
     have hs:zi j m=1:=by
      unfold zi;rw[if_neg (by omega),if_pos h]
     show zk (m :: t) j x=_;rw[zk,hs,if_neg (by omega),if_pos rfl]
     have:zu x j m=x+m*2 ^ (7*j):=by
      unfold zu;rw[Nat.mod_eq_of_lt h,Nat.mod_eq_of_lt (by omega),zcu hx]
     rw[this];rfl
   · rw[if_neg h]
     have hs:zi j (m % 128+128)=0:=by
      unfold zi;rw[if_neg (by omega),if_neg (by omega)]
     show zk ((m % 128+128) :: (vbF k (m / 128)++t)) j x=_;rw[zk,hs,if_neg (by omega),if_neg (by omega)];have hp:=zi5 j;have hmd:m % 128*2 ^ (7*j)≤m*2 ^ (7*j):=Nat.mul_le_mul_right _ (Nat.mod_le _ _)
     have ho:zu x j (m % 128+128)=x+m % 128*2 ^ (7*j):=by
      unfold zu;rw[show (m % 128+128) % 128=m % 128 by omega,Nat.mod_eq_of_lt (by omega),zcu hx]
     have hsum:x+m % 128*2 ^ (7*j)+m / 128*2 ^ (7*(j+1))=x+m*2 ^ (7*j):=by
      rw[hp]
      have e:m*2 ^ (7*j)=m % 128*2 ^ (7*j)+m / 128*(128*2 ^ (7*j)):=by
       rw[←Nat.mul_assoc,←Nat.add_mul];congr 1;omega
      omega
     have hx2:x+m % 128*2 ^ (7*j)<2 ^ (7*(j+1)):=by
      rw[hp];have:m % 128*2 ^ (7*j)≤127*2 ^ (7*j):=Nat.mul_le_mul_right _ (by omega);omega
     rw[ho,zi6 k (j+1) (m / 128) _ t (by omega) (by
      rw[show 7*(k+1)+1=(7*k+1)+7 from by omega,Nat.pow_add] at hm;exact Nat.div_lt_of_lt_mul (by omega)) (fun _=>by omega) hx2 (by rw[hsum];exact h64),hsum,List.length_cons]
     congr 2;omega
theorem zq2 {x:Nat} (t:List Nat) (h:x<18446744073709551616):zk (zo x++t) 0 0=(1,x,(zo x).length):=by
 have:=zi6 9 0 x 0 t rfl (by simpa using h) (fun h=>by omega) (by simp) (by simpa using h);simpa [zo] using this
theorem zi7:∀(l:List Nat) (j x X J:Nat),(∀c∈l,c<256)→j≤9→x<2 ^ (7*j)→zk l j x=(1,X,J)→
 ∃m,X=x+m*2 ^ (7*j)∧m<2 ^ (7*(9 - j)+1)∧(0<j→0<m)∧j<J∧J≤j+l.length∧vbF (9 - j) m=l.take (J - j)
 | [],j,x,X,J,_,_,_,h=>by simp[zk] at h
 | c :: l,j,x,X,J,hl,hj,hx,h=>by
   have hc:=hl c List.mem_cons_self;rw[zk] at h;by_cases h2:zi j c=2
   · rw[if_pos h2] at h;simp at h
   · rw[if_neg h2] at h;by_cases h1:zi j c=1
     · rw[if_pos h1] at h;obtain⟨a1,a2,a3⟩:=zq1 h1;simp only[Prod.mk.injEq,true_and] at h;obtain⟨rfl,rfl⟩:=h
       have hb:c*2 ^ (7*j)<18446744073709551616:=by
        by_cases h9:j=9
        · subst h9;have:=a2 rfl;simp only[Nat.reduceMul,Nat.reducePow];omega
        · have:2 ^ (7*j)≤2 ^ 56:=Nat.pow_le_pow_right (by omega) (by omega);have:c*2 ^ (7*j)≤127*2 ^ 56:=Nat.mul_le_mul (by omega) this;simp only[Nat.reducePow] at this;omega
       refine⟨c,?_,?_,fun h=>by have:=a3 h;omega,by omega,by simp only[List.length_cons];omega,?_⟩
       · unfold zu;rw[Nat.mod_eq_of_lt a1,Nat.mod_eq_of_lt hb,zcu hx]
       · by_cases h9:j=9
         · subst h9;have:=a2 rfl;simp only[Nat.sub_self,Nat.mul_zero,Nat.zero_add,Nat.pow_one];omega
         · have:2 ^ 8≤2 ^ (7*(9 - j)+1):=Nat.pow_le_pow_right (by omega) (by omega);simp only[Nat.reducePow] at this;omega
       · rw[show j+1 - j=1 by omega]
         obtain h9 | ⟨k,h9⟩:9 - j=0∨∃k,9 - j=k+1:=by
          rcases Nat.eq_zero_or_pos (9 - j) with e | e
          · exact .inl e
          · exact .inr ⟨9 - j - 1,by omega⟩
         · rw[h9];simp[vbF];omega
         · rw[h9,zac,if_pos a1];rfl
     · rw[if_neg h1] at h
       have h0:zi j c=0:=by
        unfold zi at h1 h2 ⊢;by_cases e1:(j=9∧1<c)∨(0<j∧c=0)
        · rw[if_pos e1] at h2;exact absurd rfl h2
        · rw[if_neg e1] at h1 ⊢;by_cases e2:c<128
          · rw[if_pos e2] at h1;exact absurd rfl h1
          · rw[if_neg e2]
       obtain⟨b1,b2,b3⟩:=zq0 h0;have hp:=zi5 j
       have hb:c % 128*2 ^ (7*j)<18446744073709551616:=by
        have:2 ^ (7*j)≤2 ^ 56:=Nat.pow_le_pow_right (by omega) (by omega);have:c % 128*2 ^ (7*j)≤127*2 ^ 56:=Nat.mul_le_mul (by omega) this;simp only[Nat.reducePow] at this;omega
       have ho:zu x j c=x+c % 128*2 ^ (7*j):=by
        unfold zu;rw[Nat.mod_eq_of_lt hb,zcu hx]
       rw[ho] at h
       have hx2:x+c % 128*2 ^ (7*j)<2 ^ (7*(j+1)):=by
        rw[hp];have:c % 128*2 ^ (7*j)≤127*2 ^ (7*j):=Nat.mul_le_mul_right _ (by omega);omega
       obtain⟨m,e1,e2,e3,e4,e5,e6⟩:=zi7 l (j+1) _ X J (fun c hc=>hl c (List.mem_cons_of_mem _ hc)) (by omega) hx2 h;have hm:=e3 (by omega);refine⟨c % 128+128*m,?_,?_,fun _=>by omega,by omega,by simp only[List.length_cons];omega,?_⟩
       · rw[e1,hp,Nat.add_mul,←Nat.mul_assoc,Nat.mul_comm m 128];omega
       · rw[show 7*(9 - j)+1=(7*(9 - (j+1))+1)+7 by omega,Nat.pow_add];generalize 2 ^ (7*(9 - (j+1))+1)=P at*;omega
       · rw[show 9 - j=(9 - (j+1))+1 by omega,zac,if_neg (by omega),show (c % 128+128*m) % 128+128=c by omega,show (c % 128+128*m) / 128=m by omega,e6,show J - j=(J - (j+1))+1 by omega,List.take_succ_cons]
theorem zi8 {l:List Nat} {x j:Nat} (hl:∀c∈l,c<256) (h:zk l 0 0=(1,x,j)):x<18446744073709551616∧0<j∧j≤l.length∧zo x=l.take j:=by
 obtain⟨m,e1,e2,-,e4,e5,e6⟩:=zi7 l 0 0 x j hl (by omega) (by simp) h;simp only[Nat.mul_zero,Nat.pow_zero,Nat.mul_one,Nat.zero_add,Nat.sub_zero] at e1 e2 e5 e6;subst e1;exact⟨by simpa using e2,e4,e5,e6⟩
theorem zas {l:List Nat} (hl:∀c∈l,c<256) {p x q:Nat} (h:yx l p=.ok (x,q)):p<q∧q≤l.length∧x<18446744073709551616∧l.drop p=zo x++l.drop q∧q=p+(zo x).length:=by
 unfold yx at h;split at h
 · rename_i y j hs;cases h;obtain⟨h1,h2,h3,h4⟩:=zi8 (fun c hc=>hl c (List.mem_of_mem_drop hc)) hs;rw[List.length_drop] at h3;refine⟨by omega,by omega,h1,?_,?_⟩
   · rw[h4,←List.drop_drop,List.take_append_drop]
   · rw[h4,List.length_take,List.length_drop];omega
 · cases h
 · cases h
theorem zq3 {l t:List Nat} {p x:Nat} (hx:x<18446744073709551616) (h:l.drop p=zo x++t):yx l p=.ok (x,p+(zo x).length):=by
 unfold yx;rw[h,zq2 t hx]
 rfl
def zy (T:zg):Nat→List Nat→Nat→Prop
 | p,[],q=>p=q
 | p,n :: ns,q=>∃r,T p=.ok (n,r)∧zy T r ns q
theorem qv {T:zg}:∀{a b:List Nat} {p q:Nat},zy T p (a++b) q↔∃r,zy T p a r∧zy T r b q
 | [],b,p,q=>⟨fun h=>⟨p,rfl,h⟩,fun ⟨r,h,h'⟩=>by cases h;exact h'⟩
 | n :: a,b,p,q=>by
   constructor
   · rintro⟨r,h1,h2⟩;obtain⟨s,h3,h4⟩:=qv.1 h2;exact⟨s,⟨r,h1,h3⟩,h4⟩
   · rintro⟨s,⟨r,h1,h3⟩,h4⟩;exact⟨r,h1,qv.2 ⟨s,h3,h4⟩⟩
theorem k8 {T:zg} (hT:∀p x q,T p=.ok (x,q)→p<q):∀{a:List Nat} {p q:Nat},zy T p a q→p+a.length≤q
 | [],p,q,h=>by cases h;simp
 | n :: a,p,q,⟨r,h1,h2⟩=>by
   have:=hT _ _ _ h1;have:=k8 hT h2;simp only[List.length_cons];omega
theorem zi9 {l:List Nat}:∀{ns t:List Nat} {p:Nat},(∀x∈ns,x<18446744073709551616)→l.drop p=y9 ns++t→zy (yx l) p ns (p+(y9 ns).length)
 | [],t,p,_,h=>by simp[zy,y9]
 | n :: ns,t,p,hn,h=>by
   have e:y9 (n :: ns)=zo n++y9 ns:=rfl;rw[e,List.append_assoc] at h;refine⟨p+(zo n).length,zq3 (hn n List.mem_cons_self) h,?_⟩;have:=zi9 (l:=l) (ns:=ns) (t:=t) (p:=p+(zo n).length) (fun x hx=>hn x (List.mem_cons_of_mem _ hx)) (by rw[←List.drop_drop,h,List.drop_left]);rw[e,List.length_append,←Nat.add_assoc];exact this
theorem zfx {l:List Nat} (hl:∀c∈l,c<256):∀{ns:List Nat} {p q:Nat},zy (yx l) p ns q→l.drop p=y9 ns++l.drop q
 | [],p,q,h=>by cases h;rfl
 | n :: ns,p,q,⟨r,h1,h2⟩=>by
   obtain⟨-,-,-,h3,-⟩:=zas hl h1;have e:y9 (n :: ns)=zo n++y9 ns:=rfl;rw[h3,zfx hl h2,e,List.append_assoc]
end
section
open Go.RowKit
attribute [local go_sem] qj
def zbw (g:Nat):Option Iv→Value
 | none=>.func (.func 109) #[.pointer (some ⟨g,0,none⟩)] #[]
 | some _=>.func (.func 193) #[.pointer (some ⟨g,0,none⟩)] #[]
def ym (g ap lo:Nat) (last:Option Iv) (op:Bool):List Value:=
 [.int .u64 (ap:Int),.int .u64 (lo:Int),.int .u64 (((last.getD (0,0)).1:Nat):Int),.int .u64 (((last.getD (0,0)).2:Nat):Int),.bool last.isSome,.bool op,zbw g last]
theorem zja (ap:Nat) (w:World):Calls Tryz.prog 68 #[.int .u64 (ap:Int)] w fun e w'=>e=.returned (.pointer (some ⟨w.heap.size,0,none⟩))∧Row w' w.heap.size 193 (ym w.heap.size ap 0 none false)∧Below w.heap.size w w':=by
 go_enter Tryz.func68,Tryz.ntmps68;go_wp2_with fail;go_ret;exact⟨rfl,yf _ _ _,(Below.refl _ _).alloc (Nat.le_refl _) _⟩
theorem zq4 (g d:Nat) (w:World):Calls Tryz.prog 109 #[.pointer (some ⟨g,0,none⟩),.int .u64 (d:Int)] w fun e w'=>e=.returned (.tuple #[.int .u64 (d:Int),.bool true])∧w=w':=by
 go_enter Tryz.func109,Tryz.ntmps109;go_wp2_with fail;go_ret2;exact⟨rfl,rfl⟩
theorem zcv {s:Nat} (h:s<18446744073709551616):j6 s=.tuple #[.int .u64 (s:Int),.bool true]:=if_pos h
theorem zcw {s:Nat} (h:¬s<18446744073709551616):j6 s=.tuple #[.int .u64 0,.bool false]:=if_neg h
theorem zbx (l:List Nat) (W:World) (g n:Nat) (h:W.heap[g]?=some (.cells (yi l).toArray 43)) (hn:l.length=n) (h64:∀x∈l,x<18446744073709551616) (hl:n≤10) {v:Value} (hv:j6 l.sum=v):
 Calls Tryz.prog 192 #[.slice (some ⟨g,0,none⟩) n n] W fun e w'=>e=.returned v∧Below W.heap.size W w':=
 (zpw _ n n l W (kw h rfl (by rw[zck,hn];omega)) hn h64 hl).mono fun e w' ⟨h1,h2⟩=>⟨by rw[h1,hv],h2⟩
set_option maxRecDepth 20000 in
theorem zq5 (g ap lo d:Nat) (s:Iv) (op:Bool) (w:World) (h:Row w g 193 (ym g ap lo (some s) op)) (hs:s.2<18446744073709551616) (ha:ap<18446744073709551616) (hd:d<18446744073709551616):
 Calls Tryz.prog 193 #[.pointer (some ⟨g,0,none⟩),.int .u64 (d:Int)] w fun e w'=>e=.returned (j6 (s.2+1+ap+d))∧Below w.heap.size w w':=by
 obtain⟨s1,s2⟩:=s;simp only at hs;have q0:=h.cell 0 rfl;have q3:=h.cell 3 rfl;simp only[Option.getD_some] at q0 q3
 have h64:∀x∈[s2,1,ap,d],x<18446744073709551616:=fun x hx=>by
  simp only[List.mem_cons,List.not_mem_nil,or_false] at hx;rcases hx with rfl | rfl | rfl | rfl <;> first | assumption | omega
 have hsum:[s2,1,ap,d].sum=s2+1+ap+d:=by simp only[List.sum_cons,List.sum_nil,Nat.add_zero,Nat.add_assoc]
 have H64:=hid h64;clear h hs ha hd h64;by_cases h:s2+1+ap+d<18446744073709551616
 · have hv:j6 [s2,1,ap,d].sum=.tuple #[.int .u64 ((s2+1+ap+d:Nat):Int),.bool true]:=by rw[hsum];exact zcv h
   have HS:=hid (fun W hW=>zbx [s2,1,ap,d] W w.heap.size 4 hW rfl H64.out (by omega) hv);have Hv:=hid (zcv h);clear h hsum hv;generalize s2+1+ap+d=S at*;go_enter Tryz.func193,Tryz.ntmps193;go_wp2;go_region_with (go_at_call 192;refine(HS.out _ (by exact j2 w _ _ rfl)).mono ?_;rintro e w1 ⟨rfl,hb1⟩)
   all_goals go_wp2
   all_goals go_ret2
   all_goals exact⟨by rw[Hv.out];rfl,((Below.refl _ _).alloc (Nat.le_refl _) _).drew.trans (hb1.mono (by simp))⟩
 · have hv:j6 [s2,1,ap,d].sum=.tuple #[.int .u64 0,.bool false]:=by rw[hsum];exact zcw h
   have HS:=hid (fun W hW=>zbx [s2,1,ap,d] W w.heap.size 4 hW rfl H64.out (by omega) hv);have Hv:=hid (zcw h);clear h hsum hv;generalize s2+1+ap+d=S at*;go_enter Tryz.func193,Tryz.ntmps193;go_wp2;go_region_with (go_at_call 192;refine(HS.out _ (by exact j2 w _ _ rfl)).mono ?_;rintro e w1 ⟨rfl,hb1⟩)
   all_goals go_wp2
   all_goals go_ret2
   all_goals exact⟨by rw[Hv.out];rfl,((Below.refl _ _).alloc (Nat.le_refl _) _).drew.trans (hb1.mono (by simp))⟩
def zq6 (w:World) (g ap lo:Nat) (last:Option Iv) (r:Option Nat) (e:Ending) (w':World):Prop:=
 match r with
 | none=>e=.returned (.tuple #[.int .u64 0,.bool false])∧Row w' g 193 (ym g ap lo last false)∧w.grownBy w' (some g)
 | some x=>e=.returned (.tuple #[.int .u64 (x:Int),.bool true])∧Row w' g 193 (ym g ap x last true)∧w.grownBy w' (some g)
theorem zd7 {w w':World} {n:Nat} {r:Option Nat} (h:Below n w w') (hn:n=w.heap.size):w.grownBy w' r:=⟨h.os,h.tape,h.output,h.size,fun k hk _=>h.block k (by omega)⟩
set_option maxRecDepth 20000 in
theorem zfy (g ap lo d:Nat) (last:Option Iv) (w:World) (h:Row w g 193 (ym g ap lo last false)) (hs:∀s,last=some s→s.2<18446744073709551616) (ha:ap<18446744073709551616) (hd:d<18446744073709551616):
 Calls Tryz.prog 150 #[.pointer (some ⟨g,0,none⟩),.int .u64 (d:Int)] w (zq6 w g ap lo last (loP (last.map (·.2)) ap d)):=by
 have H:=hid h;have q5:=h.cell 5 rfl;have q6:=h.cell 6 rfl;have z1:=h.fz 1;have z5:=h.fz 5;have q1:=h.cell 1 rfl
 cases last with
 | none=>
  have HF:=hid (Row.set (h.set 1 (.int .u64 (d:Int))) 5 (.bool true));simp only[zbw] at q6;clear h hs ha hd;go_enter Tryz.func150,Tryz.ntmps150;go_wp2_with fail;refine(zq4 g d _).mono ?_;rintro e w' ⟨rfl,rfl⟩;go_wp2_with fail;go_ret2
  exact⟨rfl,HF.out,vg (jt _ _ _ _) (jt _ _ _ _)⟩
 | some s=>
  have HL:=hid (zq5 g ap lo d s false w h (hs s rfl) ha hd);simp only[zbw] at q6;clear hs ha hd;by_cases hc:s.2+1+ap+d<18446744073709551616
  · have Hr:=hid (show loP ((some s).map (·.2)) ap d=some (s.2+1+ap+d) from if_pos hc);rw[Hr.out];rw[zcv hc] at HL;clear hc;generalize s.2+1+ap+d=S at*;go_enter Tryz.func150,Tryz.ntmps150;go_wp2_with fail;refine HL.out.mono ?_;rintro e w1 ⟨rfl,hb1⟩;have h1:=h.later hb1;have p1:=h1.cell 1 rfl;have p5:=h1.cell 5 rfl;have y1:=h1.fz 1;have y5:=h1.fz 5;have HF:=hid (Row.set (h1.set 1 (.int .u64 (S:Int))) 5 (.bool true));have Hb1:=hid hb1;clear h1 hb1;go_wp2_with fail;go_ret2;exact⟨rfl,HF.out,vg (zd7 Hb1.out rfl) (vg (jt _ _ _ _) (jt _ _ _ _))⟩
  · have Hr:=hid (show loP ((some s).map (·.2)) ap d=none from if_neg hc);rw[Hr.out];rw[zcw hc] at HL;clear hc;go_enter Tryz.func150,Tryz.ntmps150;go_wp2_with fail;refine HL.out.mono ?_;rintro e w1 ⟨rfl,hb1⟩;have HF:=hid (h.later hb1);have Hb1:=hid hb1;clear hb1;go_wp2_with fail;go_ret2;exact⟨rfl,HF.out,zd7 Hb1.out rfl⟩
end
section
def zL (ix:List Nat):List Int:=ix.map fun (n:Nat)=>(n:Int)
def qa (ix:List Nat):Nat→Nat
 | 0=>0
 | n+1=>qa ix n+if n∈ix then 1 else 0
theorem zfz (ix:List Nat):∀N,qa ix N≤N
 | 0=>Nat.le_refl _
 | n+1=>by have:=zfz ix n;rw[qa];split <;> omega
theorem zjb {ix:List Nat} {i:Nat}:∀{N:Nat},N≤i→qa (ix++[i]) N=qa ix N
 | 0,_=>rfl
 | n+1,h=>by
   rw[qa,qa,zjb (by omega)];congr 1
   have e:n∈ix++[i]↔n∈ix:=by
    rw[List.mem_append,List.mem_singleton];exact⟨fun h'=>h'.resolve_right (by omega),.inl⟩
   simp only[e]
theorem zjc {ix:List Nat} {i:Nat}:∀{N:Nat},i<N→qa (ix++[i]) N=qa ix N+if i∈ix then 0 else 1
 | n+1,h=>by
   rw[qa,qa];by_cases e:i=n
   · subst e;rw[zjb (Nat.le_refl _),if_pos (by simp)];by_cases h2:i∈ix
     · rw[if_pos h2,if_pos h2]
     · rw[if_neg h2,if_neg h2]
   · rw[zjc (by omega)]
     have e2:n∈ix++[i]↔n∈ix:=by
      rw[List.mem_append,List.mem_singleton];exact⟨fun h'=>h'.resolve_right (fun h=>e h.symm),.inl⟩
     simp only[e2];omega
theorem zjd (ix:List Nat):∀N,qa ix N<N↔∃i,i<N∧i∉ix
 | 0=>⟨fun h=>by omega,fun ⟨i,h,_⟩=>by omega⟩
 | n+1=>by
   have ih:=zjd ix n;have hle:=zfz ix n;rw[qa];constructor
   · intro h;by_cases hn:n∈ix
     · rw[if_pos hn] at h;obtain⟨i,h1,h2⟩:=ih.1 (by omega);exact⟨i,by omega,h2⟩
     · exact⟨n,by omega,hn⟩
   · rintro⟨i,h1,h2⟩;by_cases e:i=n
     · subst e;rw[if_neg h2];omega
     · have:=ih.2 ⟨i,by omega,h2⟩;split <;> omega
theorem zje:∀N,qa [] N=0
 | 0=>rfl
 | n+1=>by rw[qa,zje n,if_neg (by simp)]
theorem zcx {ix:List Nat} {t:Nat} (h:t<ix.length):ko (zL ix) t=((ix[t]:Nat):Int):=by
 rw[zd2 (by simpa [zL] using h)];simp[zL]
theorem zf0 {l:List Iv} {ix:List Int} {i:Nat}:∀{d:Nat},itB l ix i d=[]↔∀t,t<d→ko ix t≠(i:Int)
 | 0=>⟨fun _ t h=>by omega,fun _=>rfl⟩
 | d+1=>by
   rw[itB];constructor
   · intro h t ht;obtain⟨h1,h2⟩:=List.append_eq_nil_iff.1 h;by_cases e:t=d
     · subst e;intro h3;rw[if_pos h3] at h2;cases h2
     · exact zf0.1 h1 t (by omega)
   · intro h;rw[zf0.2 (fun t ht=>h t (by omega)),if_neg (h d (by omega))]
     rfl
def itN (l:List Iv) (ix:List Nat) (i:Nat):List Iv:=itB l (zL ix) i l.length
theorem zjf {l:List Iv} {ix:List Nat} (h:ix.length=l.length) (i:Nat):itN l ix i=[]↔i∉ix:=by
 unfold itN;rw[zf0];constructor
 · intro h1 hm;obtain⟨t,ht,e⟩:=List.getElem_of_mem hm;exact h1 t (by omega) (by rw[zcx ht,e])
 · intro h1 t ht e;rw[zcx (by omega)] at e;exact h1 (by rw[show i=ix[t]'(by omega) by omega];exact List.getElem_mem _)
theorem zd8 {vs:List Vec} {l:List Iv} {ix:List Nat}:zt vs l ix=(List.range vs.length).map fun i=>(itN l ix i,yt vs i):=rfl
theorem zq7 {vs:List Vec} {l:List Iv} {ix:List Nat} (h:ix.length=l.length):(∃f∈zt vs l ix,f.1=[])↔qa ix vs.length<vs.length:=by
 rw[zjd,zd8];constructor
 · rintro⟨f,hf,h1⟩;obtain⟨i,hi,rfl⟩:=List.mem_map.1 hf;exact⟨i,List.mem_range.1 hi,(zjf h i).1 h1⟩
 · rintro⟨i,h1,h2⟩;exact⟨_,List.mem_map.2 ⟨i,List.mem_range.2 h1,rfl⟩,(zjf h i).2 h2⟩
theorem zjg {l:List Iv} {ix:List Nat} {s:Iv} {x i:Nat} (h:ix.length=l.length):∀d,d≤l.length→itB (l++[s]) (zL (ix++[x])) i d=itB l (zL ix) i d
 | 0,_=>rfl
 | d+1,hd=>by
   rw[itB,itB,zjg h d (by omega),zcx (by simp;omega),zcx (by omega),List.getElem_append_left (by omega)];have e:zb (l++[s]) d=zb l d:=by simp[zb,List.getElem?_append_left (show d<l.length by omega)]
   rw[e]
theorem zd9 {l:List Iv} {ix:List Nat} {s:Iv} {x:Nat} (h:ix.length=l.length) (i:Nat):itN (l++[s]) (ix++[x]) i=itN l ix i++if x=i then [s] else []:=by
 unfold itN;rw[show (l++[s]).length=l.length+1 by simp,itB,zjg h _ (Nat.le_refl _)];have e:zb (l++[s]) l.length=s:=by simp[zb]
 have e2:ko (zL (ix++[x])) l.length=(x:Int):=by
  rw[zcx (by simp;omega),List.getElem_append_right (by omega)];simp
 rw[e,e2];congr 1;by_cases hx:x=i
 · rw[if_pos hx,if_pos (by omega)]
 · rw[if_neg hx,if_neg (by omega)]
end
section
open Go.RowKit
def OwnB (w:World) (base:Nat) (v:Value) (l:List Nat):Prop:=w.ownsRow base 5 1 v (y9 l).length (u8s (y9 l))
theorem OwnB.below {w w':World} {base:Nat} {v:Value} {l:List Nat} (h:OwnB w base v l) (hb:Below w.heap.size w w'):OwnB w' base v l:=zx h hb
theorem zjh (base:Nat) (v:Value) (n:Nat) (xs:List Nat) (A:Option Addr) (c x y:Nat) (w:World) (hown:w.ownsRow base 43 1 v n (yi xs)) (hr:Rd w 1 A 2 (yi [x,y])) (hb:n+2≤1000000) (hbase:base≤w.heap.size):
 Calls Tryz.prog 133 #[v,.slice A 2 c] w fun e w'=>(∃v',e=.returned v'∧w'.ownsRow base 43 1 v' (n+2) (yi (xs++[x,y])))∧Below base w w':=by
 obtain⟨v',w',hrun,h1,h2⟩:=ze9 base v n xs hown A 2 c [x,y] hr (by omega) hbase;have Hrun:=hid hrun;have H1:=hid h1;have Hb:=hid (Below.grown (B:=base) (Below.refl _ _) h2 hbase (fun k hk=>(hown.lt k hk).1));clear hrun h1 h2 hown hr;go_enter Tryz.func133,Tryz.ntmps133;go_wp2_with (at_builtin;refine qf _ _ 41 rfl rfl _ _ rfl rfl _ _ Hrun.out ?_);go_ret;exact⟨⟨_,rfl,H1.out⟩,Hb.out⟩
set_option maxRecDepth 20000 in
theorem zq8 (a:Option Addr) (n c ap:Nat) (l:List Iv) (w:World) (hI:Ivs w a n c l) (hD:vv l ap) (hn:n≤100000) (hap:ap≤1):
 Calls Tryz.prog 90 #[.slice a n c,.int .u64 ap] w fun e w'=>(∃v,e=.returned (.tuple #[v,.bool true])∧w'.ownsRow w.heap.size 43 1 v (2*n) (yi (zd1 l ap)))∧Below w.heap.size w w':=by
 have HI:=hid hI;have Hl:=hid hI.len;have HD:=hid hD;have Hlt:=hid hI.lt;have Hall:=hid (show zd1 l ap=qr l ap n from by rw[←hI.len];rfl);clear hI hD;go_enter Tryz.func90,Tryz.ntmps90;go_wp2;go_loopw [6,7,8,9,10,11,14] (fun v _ _ _ _ _ i wr=>∃d:Nat,d≤n∧i=.int .i64 d∧Below w.heap.size w wr∧Hid (wr.ownsRow w.heap.size 43 1 v (2*d) (yi (qr l ap d)))) (fun _ _ _ _ _ _ i _=>n - (intOf i).toNat)
 case atStart=>exact⟨0,by omega,rfl,Below.refl _ _,World.ownsRow_nil _ _ _ _⟩
 case round=>
  obtain⟨d,hd,rfl,hb,ho⟩:=hrel;have Hb:=hid hb;clear hb;by_cases hdn:d<n
  · obtain⟨bl,ol,rfl⟩:=HI.out.some (by omega);have Hc:=hid (fun w' (h:Below wr.heap.size wr w')=>HI.out.at hdn w' (Hb.out.trans (h.mono Hb.out.size)));have Hc':=hid (fun (h1:d - 1<n) w' (h:Below wr.heap.size wr w')=>HI.out.at h1 w' (Hb.out.trans (h.mono Hb.out.size)));obtain⟨g1,g2⟩:=HD.out d (by rw[Hl.out];exact hdn);have l1:=(Hlt.out _ (zad (l:=l) (k:=d) (by rw[Hl.out];exact hdn)));have Hst:=hid (show qr l ap (d+1)=qr l ap d++[qn l ap d,(zb l d).2 - (zb l d).1] from rfl);have Hg:=hid (show qn l ap d=if d=0 then (zb l 0).1 else (zb l d).1 - (zb l (d - 1)).2 - 1 - ap from rfl);have hg0:d=0→zb l 0=zb l d:=fun h=>by rw[h]
    obtain⟨q1,q2⟩:=Hc.out _ (Below.refl _ _);have h0:(0:Int)≤d:=by omega
    have h04:(d:Int)<(n:Int):=by omega
    generalize qn l ap d=gp at*;generalize zb l 0=s0 at*;generalize zb l d=s at*;generalize zb l (d - 1)=p at*;obtain⟨sx,sy⟩:=s;obtain⟨px,py⟩:=p;simp only at q1 q2 Hc Hc' Hst Hg g1 g2 l1;have hd1:decide ((sy:Int)<(sx:Int))=false:=by rw[decide_eq_false_iff_not];omega
    have hd2:decide (sy<sx)=false:=by rw[decide_eq_false_iff_not];omega
    have hsz:IntKind.u64.wrap ((sy:Int) - (sx:Int))=((sy - sx:Nat):Int):=by rw[IntKind.wrap_u64];omega
    have hal:Below wr.heap.size wr (wr.alloc (.cells #[.int .u64 sx,.int .u64 sy] 89)):=(Below.refl _ _).alloc (Nat.le_refl _) _;have HX:=hid (zi1 wr (.int .u64 sx) (.int .u64 sy) 89);have Hal:=hid hal;generalize hsz2:sy - sx=sz at*;by_cases hd0:d=0
    · have hgp:gp=sx:=by rw[Hg.out,if_pos hd0,hg0 hd0]
      have hq1:decide (0<(d:Int))=false:=by rw[decide_eq_false_iff_not];omega
      have hq2:¬0<d:=by omega
      have Ho2:=hid (zx ho.out (show Below wr.heap.size wr ((wr.alloc (.cells #[.int .u64 sx,.int .u64 sy] 89)).alloc (.cells #[.int .u64 sx,.int .u64 sz] 43)) from Hal.out.alloc Hal.out.size _));have Hb2:=hid (Hb.out.trans ((show Below wr.heap.size wr ((wr.alloc (.cells #[.int .u64 sx,.int .u64 sy] 89)).alloc (.cells #[.int .u64 sx,.int .u64 sz] 43)) from Hal.out.alloc Hal.out.size _).mono Hb.out.size));rw[hgp] at Hst;clear hal hgp hg0 hsz2 Hg g1 g2 l1 Hc' Hc hd0;go_wp2_with fail;refine(zjh w.heap.size _ (2*d) (qr l ap d) (some ⟨wr.heap.size+1,0,none⟩) 2 sx sz _ Ho2.out (kw (j2 _ _ _ (by simp)) rfl rfl) (by omega) Hb2.out.size).mono ?_;rintro e w4 ⟨⟨v',rfl,ho4⟩,hb4⟩;have Ho4:=hid ho4;have Hb4:=hid (Hb2.out.trans hb4);clear ho4 hb4;go_wp2;go_roundw
      case rel=>exact⟨d+1,by omega,by go_num,Hb4.out,by rw[Hst.out];exact Ho4.out⟩
      case measure=>simp[intOf];omega
    · have g2:=g2 (by omega);have hgp:gp=sx - py - 1 - ap:=by rw[Hg.out,if_neg hd0]
      have hq1:decide (0<(d:Int))=true:=by rw[decide_eq_true_iff];omega
      have hq2:0<d:=by omega
      have hsub:IntKind.i64.wrap ((d:Int) - 1)=((d - 1:Nat):Int):=by rw[IntKind.wrap_i64];omega
      have h01:(0:Int)≤((d - 1:Nat):Int):=by omega
      have h03:((d - 1:Nat):Int)<(n:Int):=by omega
      have Hc1:=hid (Hc'.out (by omega));have hBt:=hid (fun w=>zcl py sx w (by omega) l1.1);have hlt1:decide (((sx - py - 1:Nat):Int)<(ap:Int))=false:=by rw[decide_eq_false_iff_not];omega
      have hlt2:decide (sx - py - 1<ap)=false:=by rw[decide_eq_false_iff_not];omega
      have hsub2:IntKind.u64.wrap (((sx - py - 1:Nat):Int) - (ap:Int))=(gp:Int):=by rw[IntKind.wrap_u64,hgp];omega
      have HXc:=hid (fun w' (h:Below (wr.alloc (.cells #[.int .u64 sx,.int .u64 sy] 89)).heap.size (wr.alloc (.cells #[.int .u64 sx,.int .u64 sy] 89)) w')=>And.intro (Hc1.out w' (Hal.out.trans (h.mono Hal.out.size))) (HX.out w' h));clear hal hgp hg0 hsz2 Hg g1 g2 l1 Hc' Hc Hc1 hd0;generalize sx - py - 1=bt at*;generalize d - 1=d1 at*;have Hb1:=hid (Hb.out.trans (Hal.out.mono Hb.out.size));have Ho1:=hid (zx ho.out Hal.out);clear ho HX Hal;generalize hW:wr.alloc (.cells #[.int .u64 sx,.int .u64 sy] 89)=W at*;obtain⟨-,x1,x2⟩:=HXc.out _ (Below.refl _ _);go_wp2_with fail;refine zae (by kernel_rfl) (by kernel_rfl) ?_
      repeat (go_big_quiet_step ((intro hw;first
       | rfl
       | (obtain⟨⟨y1,y2⟩,y3,y4⟩:=HXc.out _ hw
          first
          | (go_at_call 128;refine(hBt.out _).mono ?_;rintro e w4 ⟨rfl,rfl⟩;exact⟨rfl,hw⟩)
          | (go_simp
             first | rfl | exact⟨rfl,hw⟩ | (trace_state;fail))))))
      refine wpQuiet_nil ?_;intro w3 hb3;obtain⟨-,x3,x4⟩:=HXc.out _ hb3;have hal3:Below w3.heap.size w3 (w3.alloc (.cells #[.int .u64 gp,.int .u64 sz] 43)):=(Below.refl _ _).alloc (Nat.le_refl _) _;have hb3w:=Hb1.out.trans (hb3.mono Hb1.out.size);have Hb3:=hid (hb3w.trans (hal3.mono hb3w.size));have Ho3:=hid (zx (zx Ho1.out hb3) hal3);clear hb3 hal3 hb3w x1 x2 HXc Ho1 Hb1;go_wp2_with fail;refine(zjh w.heap.size _ (2*d) (qr l ap d) (some ⟨w3.heap.size,0,none⟩) 2 gp sz _ Ho3.out (kw (j2 _ _ _ rfl) rfl rfl) (by omega) Hb3.out.size).mono ?_;rintro e w4 ⟨⟨v',rfl,ho4⟩,hb4⟩;have Ho4:=hid ho4;have Hb4:=hid (Hb3.out.trans hb4);clear ho4 hb4;go_wp2;go_roundw
      case rel=>exact⟨d+1,by omega,by go_num,Hb4.out,by rw[Hst.out];exact Ho4.out⟩
      case measure=>simp[intOf];omega
  · obtain rfl:d=n:=by omega
    have Ho:=hid ho.out;rw[←Hall.out] at Ho;go_wp2;go_ret2;exact⟨⟨_,rfl,Ho.out⟩,Hb.out⟩
def zea (B:Value) (q E c p:Int) (m:Bool):List Value:=[B,.int .i64 q,.int .i64 E,.int .i64 c,.int .i64 p,.bool m]
def CurM (w:World) (g:Nat) (B:Value) (E:Nat):Except (Nat×Nat) Nat→Prop
 | .ok q=>Row w g 106 (zea B q E 0 0 false)
 | .error e=>∃q:Nat,Row w g 106 (zea B q E (e.1:Nat) (if e.1=0 then 0 else (e.2:Int)) (decide (e.1=0)))
theorem CurM.lt {w:World} {g:Nat} {B:Value} {E:Nat} {s:Except (Nat×Nat) Nat} (h:CurM w g B E s):g<w.heap.size:=by
 cases s with
 | ok q=>exact Row.lt h
 | error e=>obtain⟨q,h⟩:=h;exact h.lt
theorem CurM.later {w w':World} {g:Nat} {B:Value} {E:Nat} {s:Except (Nat×Nat) Nat} (h:CurM w g B E s) (hb:Below w.heap.size w w'):CurM w' g B E s:=by
 cases s with
 | ok q=>exact Row.later h hb
 | error e=>obtain⟨q,h⟩:=h;exact⟨q,h.later hb⟩
theorem zji {l:List Nat} {E p:Nat} {y:Nat×Nat} (h:zq l E p=.ok y):yx (l.take E) p=.ok y:=by
 unfold zq at h;unfold yx;generalize zk ((l.take E).drop p) 0 0=s at*;obtain⟨a,b,c⟩:=s;rcases a with _ | _ | _ | a
 · cases h
 · exact h
 · cases h
 · cases h
theorem zby {l:List Nat} {E p x q:Nat} (hl:∀c∈l,c<256) (h:zq l E p=.ok (x,q)):p<q∧q≤l.length∧q≤E∧x<18446744073709551616∧q=p+(zo x).length:=by
 obtain⟨h1,h2,h3,-,h5⟩:=zas (fun c hc=>hl c (List.mem_of_mem_take hc)) (zji h);rw[List.length_take] at h2;exact⟨h1,by omega,by omega,h3,h5⟩
structure Rf (w:World) (a:Option Addr) (n cap E:Nat) (l:List Nat):Prop where
 b:Byts w a n cap l
 n:n≤2000000000000000000
 E:E≤4000000000000000000
theorem Rf.below {w w':World} {a:Option Addr} {n cap E:Nat} {l:List Nat} (h:Rf w a n cap E l) (hb:Below w.heap.size w w'):Rf w' a n cap E l:=⟨h.b.below hb,h.n,h.E⟩
theorem CurM.other {w:World} {g R i:Nat} {B:Value} {E:Nat} {s:Except (Nat×Nat) Nat} (h:CurM w g B E s) (ha:R≠g) (v:Value):CurM (w.setCell ⟨R,i,none⟩ v) g B E s:=by
 cases s with
 | ok q=>exact Row.other h (a:=⟨R,i,none⟩) (fun e=>ha e.symm) v
 | error e=>obtain⟨q,h⟩:=h;exact⟨q,Row.other h (a:=⟨R,i,none⟩) (fun e=>ha e.symm) v⟩
structure Grw (w w':World) (v v':Value):Prop where
 g:w.grownBy w' v.ownBlock
 b:∀k,v'.ownBlock=some k→v.ownBlock=some k∨w.heap.size≤k
theorem Grw.refl (w:World) (v:Value):Grw w w v v:=⟨World.grownBy.refl _ _,fun k h=>.inl h⟩
theorem Grw.trans {w1 w2 w3:World} {v1 v2 v3:Value} (h:Grw w1 w2 v1 v2) (k:Grw w2 w3 v2 v3):Grw w1 w3 v1 v3:=by
 refine⟨⟨k.g.os.trans h.g.os,k.g.tape.trans h.g.tape,k.g.output.trans h.g.output,Nat.le_trans h.g.size k.g.size,fun i hi hn=>?_⟩,fun i hi=>?_⟩
 · rw[k.g.block i (Nat.lt_of_lt_of_le hi h.g.size) (fun e=>?_),h.g.block i hi hn];rcases h.b i e.symm with h' | h'
   · exact hn h'.symm
   · omega
 · rcases k.b i hi with h' | h'
   · exact h.b i h'
   · exact .inr (Nat.le_trans h.g.size h')
theorem Grw.below {w w1 w2:World} {v v1:Value} (h:Grw w w1 v v1) (hb:Below w1.heap.size w1 w2):Grw w w2 v v1:=
 ⟨⟨hb.os.trans h.g.os,hb.tape.trans h.g.tape,hb.output.trans h.g.output,Nat.le_trans h.g.size hb.size,fun i hi hn=>(hb.block i (Nat.lt_of_lt_of_le hi h.g.size)).trans (h.g.block i hi hn)⟩,h.b⟩
theorem Grw.alloc {w w1:World} {v v1:Value} (h:Grw w w1 v v1) (o:Obj):Grw w (w1.alloc o) v v1:=h.below ((Below.refl _ _).alloc (Nat.le_refl _) o)
theorem Grw.toBelow {w w':World} {v v':Value} {base:Nat} (h:Grw w w' v v') (hb:base≤w.heap.size) (hv:∀k,v.ownBlock=some k→base≤k):Below base w w':=(Below.refl _ _).grown h.g hb hv
theorem Grw.row {w w':World} {v v':Value} (h:Grw w w' v v') {base sz n:Nat} {e:TypeId} {u:Value} {xs:List Value} (ho:w.ownsRow base e sz u n xs) (hn:∀k,u.ownBlock=some k→v.ownBlock≠some k):w'.ownsRow base e sz u n xs:=
 yu ho fun k hk=>h.g.block k (ho.lt k hk).2 (fun e=>hn k hk e.symm)
end
section
open Go.RowKit Go.Maps
theorem zq9 (b:Bool):plainElem (H:=Value) Tryz.prog 4 (.bool b)=some (.lit (.bool b),[]):=plainElem_bool Tryz.underlying4 b
theorem wfI {x:Nat} (h:x<9223372036854775808):(Lit.int .i64 (x:Int)).wf=true:=by
 simp[Lit.wf,IntKind.min,IntKind.max,IntKind.signed,IntKind.bits];omega
theorem zjj:Maps.Keyed Tryz.prog 3:=int_keyed Tryz.underlying3
theorem zra {x:Nat} (h:x<9223372036854775808):keyOf Tryz.prog 3 (.int .i64 (x:Int))=some (.int .i64 (x:Int)):=keyOf_int_mk Tryz.underlying3 (wfI h)
theorem zrb {r x:Nat} (h:r≠x):Lit.int .i64 (r:Int)≠Lit.int .i64 (x:Int):=fun e=>h (by cases e;rfl)
def UsedM (w:World) (U:Nat) (ix:List Nat):Prop:=
 ∃n D,w.ownsMap Tryz.prog 3 (plainElem (H:=Value) Tryz.prog 4) U n D∧n≤ix.length∧(∀i:Nat,Maps.has D (.int .i64 (i:Int))=decide (i∈ix))∧∀N,(∀i∈ix,i<N)→Maps.size D=qa ix N
theorem zjk (w:World):UsedM (w.alloc (.map #[] 0)) w.heap.size []:=
 ⟨0,.map [],World.ownsMap_made _ _ _ _,Nat.le_refl _,fun i=>rfl,fun N _=>(zje N).symm⟩
theorem UsedM.same {w w':World} {U:Nat} {ix:List Nat} (h:UsedM w U ix) (hk:w'.heap[U]?=w.heap[U]?):UsedM w' U ix:=by
 obtain⟨n,D,⟨es,clock,h1,h2⟩,h3⟩:=h;exact⟨n,D,⟨es,clock,hk.trans h1,h2⟩,h3⟩
theorem UsedM.notT {w:World} {U:Nat} {ix:List Nat} (h:UsedM w U ix):NotT w U:=by
 obtain⟨n,D,⟨es,clock,h1,h2⟩,h3⟩:=h;exact zqv h1
theorem UsedM.lt {w:World} {U:Nat} {ix:List Nat} (h:UsedM w U ix):U<w.heap.size:=by
 obtain⟨n,D,⟨es,clock,h1,h2⟩,h3⟩:=h;exact(Array.getElem?_eq_some_iff.1 h1).1
theorem UsedM.ne {w:World} {U g:Nat} {ix:List Nat} {C:Array Value} {T:TypeId} {fr:Nat×Nat} (h:UsedM w U ix) (hg:w.heap[g]?=some (.cells C T fr)):U≠g:=by
 obtain⟨n,D,⟨es,clock,h1,h2⟩,h3⟩:=h;intro e;subst e;rw[h1] at hg;injection hg with hg;cases hg
theorem UsedM.put {w:World} {U:Nat} {ix:List Nat} (h:UsedM w U ix) {i:Nat} (hi:i<9223372036854775808) (hl:ix.length<9223372036854775807):
 ∃w',(Instr.mapUpdate 124 (.map (some U)) (.int .i64 (i:Int)) (.bool true)).run Tryz.prog w=.ok () w'∧UsedM w' U (ix++[i])∧w.grownBy w' (some U):=by
 obtain⟨n,D,h1,h2,h3,h4⟩:=h;obtain⟨w',hrun,r1,r2⟩:=h1.update zjj Tryz.underlying124 (by unfold maxLen;omega) (zra hi) (zq9 true);have hT:=h1.tidy zjj;refine⟨w',hrun,⟨n+1,_,r1,by simp;omega,fun j=>?_,fun N hN=>?_⟩,r2⟩
 · by_cases e:j=i
   · subst e;rw[has_put_same hT.isMap (show WideAt.IsKeyLit (.int .i64 (j:Int)) from trivial)];simp
   · rw[has_put_other (zrb e),h3 j];simp[e]
 · have hiN:i<N:=hN i (by simp);rw[size_put hT,h3 i,h4 N (fun j hj=>hN j (by simp[hj])),zjc hiN];by_cases e:i∈ix
   · simp[e]
   · simp[e]
theorem UsedM.len {w:World} {U:Nat} {ix:List Nat} (h:UsedM w U ix) (N:Nat) (hN:∀i∈ix,i<N) (ty:TypeId):(Builtin.len_ #[124] ty #[.map (some U)]).run Tryz.prog w=.ok (.int .i64 ((qa ix N:Nat):Int)) w:=by
 obtain⟨n,D,h1,h2,h3,h4⟩:=h;rw[h1.len Tryz.underlying124 ty,h4 N hN]
theorem zjl {w:World} {ops:Array Oper} {rest:List Oper} {o:Oper} {a:Act} {Q:Exit→Act→World→Prop} (hg:o.guard=none) (m x v:Operand) (hop:o.op=Op.mapUpdate 124 m x v)
 (U:Nat) (ix:List Nat) (h:UsedM w U ix) (i:Nat) (hi:i<9223372036854775808) (hl:ix.length<9223372036854775807) (hm:a.eval m=.map (some U)) (hx:a.eval x=.int .i64 (i:Int)) (hv:a.eval v=.bool true)
 (hK:∀w',UsedM w' U (ix++[i])→w.grownBy w' (some U)→wpList Tryz.prog ops Q rest (a.put o.dst undef) w'):wpList Tryz.prog ops Q (o :: rest) a w:=by
 refine wpList_plain hg fun K' hK'=>?_
 obtain⟨w',hrun,r1,r2⟩:=h.put hi hl;unfold Oper.wp;simp[execOp,hop,hm,hx,hv,hrun,Result.andThen];exact hK' _ _ (hK w' r1 r2)
end
section
open Go.RowKit
attribute [local go_sem] qj
def zcy (w:World) (g ap lo d:Nat) (last:Option Iv) (e:Ending) (w':World):Prop:=
 if lo+d<18446744073709551616 then e=.returned (.tuple #[ivV (lo,lo+d),.bool true])∧Row w' g 193 (ym g ap lo (some (lo,lo+d)) false)∧w.grownBy w' (some g)
 else e=.returned (.tuple #[ivV (0,0),.bool false])∧Row w' g 193 (ym g ap lo last true)∧w.grownBy w' (some g)
set_option maxRecDepth 20000 in
theorem zjm (g ap lo d:Nat) (last:Option Iv) (w:World) (h:Row w g 193 (ym g ap lo last true)) (hlo:lo<18446744073709551616) (hd:d<18446744073709551616):
 Calls Tryz.prog 151 #[.pointer (some ⟨g,0,none⟩),.int .u64 (d:Int)] w (zcy w g ap lo d last):=by
 have q1:=fun o=>(h.later ((Below.refl _ _).alloc (Nat.le_refl _) o)).cell 1 rfl
 have q5:=fun o=>(h.later ((Below.refl _ _).alloc (Nat.le_refl _) o)).cell 5 rfl
 have h64:∀x∈[lo,d],x<18446744073709551616:=fun x hx=>by
  simp only[List.mem_cons,List.not_mem_nil,or_false] at hx;rcases hx with rfl | rfl <;> assumption
 have hsum:[lo,d].sum=lo+d:=by simp only[List.sum_cons,List.sum_nil,Nat.add_zero]
 have H:=hid h;have H64:=hid h64;have Hal:Below w.heap.size w (w.alloc (.cells #[.int .u64 0,.int .u64 0] 89)):=(Below.refl _ _).alloc (Nat.le_refl _) _;have Ha:=hid Hal;have HX:=hid (yf w 89 [.int .u64 0,.int .u64 0]);clear hlo hd h64 Hal;by_cases hc:lo+d<18446744073709551616
 · have Hr:=hid (fun e w'=>show zcy w g ap lo d last e w'=_ from if_pos hc);have hv:j6 [lo,d].sum=.tuple #[.int .u64 ((lo+d:Nat):Int),.bool true]:=by rw[hsum];exact zcv hc
   have HS:=hid (fun W g hW=>zbx [lo,d] W g 2 hW rfl H64.out (by omega) hv);clear hc hsum hv;generalize lo+d=S at*;go_enter Tryz.func151,Tryz.ntmps151;go_wp2_with fail;refine(HS.out _ (w.heap.size+1) (by exact j2 _ _ _ (by simp))).mono ?_;rintro e w1 ⟨rfl,hb1⟩;have hb2:=(Below.refl _ _).alloc (Nat.le_refl _) _ |>.trans (hb1.mono (by simp))
   have hX:=HX.out.later hb2;have x0:=hX.cell 0 rfl;have x1:=hX.cell 1 rfl;have y0:=hX.fz 0;have y1:=hX.fz 1;have h1:=H.out.later (Ha.out.trans (hb2.mono (by simp)));have p1:=h1.cell 1 rfl;have p2:=h1.cell 2 rfl;have p3:=h1.cell 3 rfl;have p4:=h1.cell 4 rfl;have p5:=h1.cell 5 rfl;have p6:=h1.cell 6 rfl;have z2:=h1.fz 2;have z3:=h1.fz 3;have z4:=h1.fz 4;have z5:=h1.fz 5;have z6:=h1.fz 6;have hne:¬g=w.heap.size:=by have:=H.out.lt;omega
   have HF:=hid (show Row (((((w1.setCell ⟨g,2,none⟩ (.int .u64 (lo:Int))).setCell ⟨g,3,none⟩ (.int .u64 (S:Int))).setCell ⟨g,4,none⟩ (.bool true)).setCell ⟨g,5,none⟩ (.bool false)).setCell ⟨g,6,none⟩ (zbw g (some (lo,S)))) g 193 (ym g ap lo (some (lo,S)) false) from Row.set (Row.set (Row.set (Row.set (h1.set 2 _) 3 _) 4 _) 5 _) 6 _);have Hb1:=hid (Ha.out.trans (hb2.mono (by simp)));have G1:=jd (a:=⟨g,2,none⟩) (zd7 (r:=some g) Hb1.out rfl) (.int .u64 (lo:Int)) (.inr rfl);have G2:=jd (a:=⟨g,3,none⟩) G1 (.int .u64 (S:Int)) (.inr rfl);have G3:=jd (a:=⟨g,4,none⟩) G2 (.bool true) (.inr rfl);have G4:=jd (a:=⟨g,5,none⟩) G3 (.bool false) (.inr rfl);have G5:=jd (a:=⟨g,6,none⟩) G4 (zbw g (some (lo,S))) (.inr rfl);have G6:=jd (a:=⟨w.heap.size,0,none⟩) G5 (.int .u64 (lo:Int)) (.inl (Nat.le_refl _));have HG:=hid (jd (a:=⟨w.heap.size,1,none⟩) G6 (.int .u64 (S:Int)) (.inl (Nat.le_refl _)));clear h1 hb1 hb2 hX q1 q5 G1 G2 G3 G4 G5 G6;simp only[zbw] at HF HG;go_wp2_with fail;refine bodyPost_ret (v:=.tuple #[ivV (lo,S),.bool true]) (by simp[results,Tryz.results151,go_sem,ivV,x0,x1]) rfl ?_;rw[Hr.out];exact⟨rfl,(HF.out.other (a:=⟨w.heap.size,0,none⟩) hne _).other (a:=⟨w.heap.size,1,none⟩) hne _,HG.out⟩
 · have Hr:=hid (fun e w'=>show zcy w g ap lo d last e w'=_ from if_neg hc);have hv:j6 [lo,d].sum=.tuple #[.int .u64 0,.bool false]:=by rw[hsum];exact zcw hc
   have HS:=hid (fun W g hW=>zbx [lo,d] W g 2 hW rfl H64.out (by omega) hv);clear hc hsum hv;go_enter Tryz.func151,Tryz.ntmps151;go_wp2_with fail;refine(HS.out _ (w.heap.size+1) (by exact j2 _ _ _ (by simp))).mono ?_;rintro e w1 ⟨rfl,hb1⟩;have hb2:=(Below.refl _ _).alloc (Nat.le_refl _) _ |>.trans (hb1.mono (by simp))
   have hX:=HX.out.later hb2;have x0:=hX.cell 0 rfl;have x1:=hX.cell 1 rfl;have y0:=hX.fz 0;have y1:=hX.fz 1;have HF:=hid (H.out.later (Ha.out.trans (hb2.mono (by simp))));have hne:¬g=w.heap.size:=by have:=H.out.lt;omega
   have Hb1:=hid (Ha.out.trans (hb2.mono (by simp)));have G1:=jd (a:=⟨w.heap.size,0,none⟩) (zd7 (r:=some g) Hb1.out rfl) (.int .u64 0) (.inl (Nat.le_refl _));have HG:=hid (jd (a:=⟨w.heap.size,1,none⟩) G1 (.int .u64 0) (.inl (Nat.le_refl _)));clear hb1 hb2 hX q1 q5 G1;go_wp2_with fail;refine bodyPost_ret (v:=.tuple #[ivV (0,0),.bool false]) (by simp[results,Tryz.results151,go_sem,ivV,x0,x1]) rfl ?_;rw[Hr.out];exact⟨rfl,(HF.out.other (a:=⟨w.heap.size,0,none⟩) hne _).other (a:=⟨w.heap.size,1,none⟩) hne _,HG.out⟩
theorem zjn (g ap lo:Nat) (last:Option Iv) (op:Bool) (w:World) (h:Row w g 193 (ym g ap lo last op)):
 Calls Tryz.prog 149 #[.pointer (some ⟨g,0,none⟩)] w fun e w'=>e=.returned (.tuple #[ivV (last.getD (0,0)),.bool last.isSome])∧Below w.heap.size w w':=by
 have q2:=fun o=>(h.later ((Below.refl _ _).alloc (Nat.le_refl _) o)).cell 2 rfl
 have q3:=fun o=>(h.later ((Below.refl _ _).alloc (Nat.le_refl _) o)).cell 3 rfl
 have q4:=fun o=>(h.later ((Below.refl _ _).alloc (Nat.le_refl _) o)).cell 4 rfl
 clear h;generalize last.isSome=b at*;generalize last.getD (0,0)=s at*;obtain⟨s1,s2⟩:=s;simp only at q2 q3;go_enter Tryz.func149,Tryz.ntmps149;go_wp2;go_region
 all_goals go_wp2
 all_goals exact bodyPost_ret (v:=.tuple #[ivV (s1,s2),.bool b]) (by simp[results,Tryz.results149,go_sem,ivV]) rfl ⟨rfl,((Below.refl _ _).alloc (Nat.le_refl _) _).drew⟩
end
