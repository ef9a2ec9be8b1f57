/- The walk of turn, right and take: one block taken in. -/
import Derived.Test.YtepbmdlgdaedpaaGreatDoorRows
import Derived.Test.YtepbmdlgdaedpaaGreatDoorMem
import Derived.Test.YtepbmdlgdaedpaaGreatDoorRegion
import Derived.Test.YtepbmdlgdaedpaaGreatDoorHash
import Derived.Laws.BitsAllLaws
/- The walk of turn, right and take: one block taken in. -/
namespace Go.Proofs.YtepbmdlgdaedpaaGreatDoor
open Go.RowKit Go.Dk
theorem wV {k:IntKind} {a b:Int} (h:a=b):Ending.returned (.int k a)= .returned (.int k b):=by rw [h]
theorem yA (x n:Nat) (hx:x<4294967296):bits .or .u32 ((x:Int)/2 ^ n) ((x:Int)*2 ^ (32-n)%4294967296)=(ed x n:Nat):=by
  have h1:x/2 ^ n<4294967296:=Nat.lt_of_le_of_lt (Nat.div_le_self _ _) hx
  have h2:x*2 ^ (32-n)%4294967296<4294967296:=Nat.mod_lt _ ae
  have:=u32_or_nat (x/2 ^ n) (x*2 ^ (32-n)%4294967296) h1 h2
  rw [ed,← this]
  congr 1 <;> simp [Int.natCast_ediv,Int.natCast_emod,Int.natCast_mul,Int.natCast_pow]
set_option maxHeartbeats 400000 in
theorem F9 (x n:Nat) (hx:x<4294967296) (hn:0<n) (h32:n<32) (w:World) :
    Calls Tryz.prog 208 #[.int .u32 x,.int .i64 n] w fun e w'=>e= .returned (.int .u32 (ed x n:Nat))∧∃ k,w'=w.drewN k:=by
  have hr:=Lib.hid (yA x n hx)
  go_enter Tryz.func208,Tryz.ntmps208
  go_wp2
  go_quiet (fail)
  go_wp2
  go_ret
  exact ⟨wV hr.out,nq,rfl⟩
set_option maxHeartbeats 400000 in
theorem Eu (x n:Nat) (hx:x<4294967296) (hn:0<n) (h32:n<32) (w:World) :
    Calls Tryz.prog 200 #[.int .u32 x,.int .i64 n] w fun e w'=>e= .returned (.int .u32 (ed x n:Nat))∧w=w':=by
  have hr:=Lib.hid (yA x n hx)
  go_enter Tryz.func200,Tryz.ntmps200
  go_wp2
  go_ret
  exact ⟨wV hr.out,rfl⟩
theorem jI (x:Nat) (m:Int) (n:Nat) (hm:m=n) (hx:x<4294967296) (hn:0<n) (h32:n<32) (w:World) :
    Calls Tryz.prog 208 #[.int .u32 x,.int .i64 m] w fun e w'=>e= .returned (.int .u32 (ed x n:Nat))∧∃ k,w'=w.drewN k:=by
  subst hm; exact F9 x n hx hn h32 w
theorem JC:bQ Tryz.prog 260 (.agg (wc (List.replicate 64 0)).toArray):=by unfold bQ; kernel_rfl
def Tab (w:World):Prop:=∀ i,i<64→w.cell? ⟨2,i,none⟩=some (.int .u32 (wAt ks i:Nat))
theorem Tab.lt {w:World} (h:Tab w):2<w.heap.size:=by
  have h0:=h 0 ae
  unfold World.cell? at h0
  rcases Nat.lt_or_ge 2 w.heap.size with h1 | h1
  · exact h1
  · have h2:w.heap[2]? = none:=Array.getElem?_eq_none h1
    simp [h2] at h0
def filled (l:List Nat):List Value:=wc (l++List.replicate (64-l.length) 0)
theorem jh (k:Nat) (bs:List UInt8):(words k bs).length=k:=by induction k <;> simp [words, *]
theorem uA (b:UInt8):IntKind.u32.wrap (b.toNat:Int)=b.toNat:=by rw [IntKind.wrap_u32']; have:=b.toNat_lt; omega
theorem F7 (a b c d:UInt8):bits .or .u32 (bits .or .u32 (bits .or .u32 (IntKind.u32.wrap (IntKind.u32.wrap (a.toNat:Int)*16777216)) (IntKind.u32.wrap (IntKind.u32.wrap (b.toNat:Int)*65536))) (IntKind.u32.wrap (IntKind.u32.wrap (c.toNat:Int)*256)))
    (IntKind.u32.wrap (d.toNat:Int))=(word a b c d:Nat):=by
  have ha:=a.toNat_lt
  have hb:=b.toNat_lt
  have hc:=c.toNat_lt
  have hd:=d.toNat_lt
  have e1:IntKind.u32.wrap ((a.toNat:Int)*16777216)=((a.toNat*2 ^ 24:Nat):Int):=by rw [IntKind.wrap_u32']; omega
  have e2:IntKind.u32.wrap ((b.toNat:Int)*65536)=((b.toNat*2 ^ 16:Nat):Int):=by rw [IntKind.wrap_u32']; omega
  have e3:IntKind.u32.wrap ((c.toNat:Int)*256)=((c.toNat*2 ^ 8:Nat):Int):=by rw [IntKind.wrap_u32']; omega
  simp only [uA,e1,e2,e3]
  have h1:a.toNat*2 ^ 24 ||| b.toNat*2 ^ 16<2 ^ 32:=Nat.or_lt_two_pow ag ag
  have h2:(a.toNat*2 ^ 24 ||| b.toNat*2 ^ 16) ||| c.toNat*2 ^ 8<2 ^ 32:=Nat.or_lt_two_pow h1 ag
  rw [u32_or_nat _ _ ag ag,u32_or_nat _ _ h1 ag,u32_or_nat _ _ h2 ag]
  rfl
theorem nT (l:List Nat) (h:l.length≤64):(filled l).length=64:=by simp [filled,wc]; omega
theorem uf (l:List Nat) (v:Nat) (h:l.length<64):(filled l).set l.length (.int .u32 (v:Int))=filled (l++[v]):=by
  unfold filled wc
  have e:List.replicate (64-l.length) 0=0::List.replicate (64-(l++[v]).length) 0:=by
    rw [List.length_append,List.length_singleton,show 64-l.length=(64-(l.length+1))+1 by omega,List.replicate_succ]
  rw [e]
  simp
theorem Eb (k:Nat) (bs:List UInt8) (hk:k<16):(filled (words k bs)).set k (.int .u32 (word (bAt bs (4*k)) (bAt bs (4*k+1)) (bAt bs (4*k+2)) (bAt bs (4*k+3)):Nat))=filled (words (k+1) bs):=by
  have:=uf (words k bs) (word (bAt bs (4*k)) (bAt bs (4*k+1)) (bAt bs (4*k+2)) (bAt bs (4*k+3))) (by rw [jh]; omega)
  rw [jh] at this
  exact this
theorem oH {a b:Int} (h:a=b):Value.int .u32 a= .int .u32 b:=by rw [h]
theorem sS:(Tryz.prog.info? 150).map (·.size)=some 1:=af
theorem oL (x n:Nat) (hx:x<4294967296):ed x n<4294967296:=by
  have h1:x/2 ^ n<2 ^ 32:=Nat.lt_of_le_of_lt (Nat.div_le_self _ _) hx
  exact Nat.or_lt_two_pow h1 (Nat.mod_lt _ ae)
theorem word_lt (a b c d:UInt8):word a b c d<4294967296:=by
  have ha:=a.toNat_lt
  have hb:=b.toNat_lt
  have hc:=c.toNat_lt
  have hd:=d.toNat_lt
  have h1:a.toNat*2 ^ 24 ||| b.toNat*2 ^ 16<2 ^ 32:=Nat.or_lt_two_pow ag ag
  have h2:(a.toNat*2 ^ 24 ||| b.toNat*2 ^ 16) ||| c.toNat*2 ^ 8<2 ^ 32:=Nat.or_lt_two_pow h1 ag
  exact Nat.or_lt_two_pow h2 ag
theorem su (k:Nat) (bs:List UInt8):∀ x∈words k bs,x<4294967296:=by
  induction k with
  | zero=>intro x h; cases h
  | succ k ih =>
    intro x h
    simp only [words,List.mem_append,List.mem_singleton] at h
    rcases h with h | rfl
    · exact ih x h
    · exact word_lt _ _ _ _
theorem sU (n:Nat) (l:List Nat) (h:∀ x∈l,x<4294967296):∀ x∈sched n l,x<4294967296:=by
  induction n with
  | zero=>exact h
  | succ n ih =>
    intro x hx
    simp only [sched,List.mem_append,List.mem_singleton] at hx
    rcases hx with hx | rfl
    · exact ih x hx
    · exact pJ _ _
theorem oK (n:Nat) (l:List Nat):(sched n l).length=l.length+n:=by
  induction n with
  | zero=>rfl
  | succ n ih=>simp only [sched,List.length_append,List.length_singleton,ih]; omega
theorem kD (l:List Nat) (h:∀ x∈l,x<4294967296) (i:Nat):wAt l i<4294967296:=by
  unfold wAt
  cases hi:l[i]? with
  | none=>decide
  | some v=>exact h v (List.mem_of_getElem? hi)
theorem lw (l:List Nat) (i:Nat) (h:i<l.length):(filled l)[i]? = some (.int .u32 (wAt l i:Nat)):=by
  have:(filled l)[i]? = (wc l)[i]? := by
    unfold filled wc
    rw [List.map_append,List.getElem?_append_left (by simpa using h)]
  rw [this]
  simp [wc,wAt,h]
theorem dR (a b:Nat):IntKind.u32.wrap ((a:Int)+b)=(add32 a b:Nat):=by rw [IntKind.wrap_u32',add32]; omega
theorem rE (x p q k:Nat) (hx:x<4294967296):bits .xor .u32 (bits .xor .u32 (ed x p:Nat) (ed x q:Nat)) ((x/k:Nat):Int)=(((ed x p ^^^ ed x q) ^^^ (x/k):Nat):Int):=by
  have h1:=oL x p hx
  have h2:=oL x q hx
  have h3:x/k<2 ^ 32:=Nat.lt_of_le_of_lt (Nat.div_le_self _ _) hx
  rw [u32_xor_nat _ _ h1 h2,u32_xor_nat _ _ (Nat.xor_lt_two_pow (n:=32) h1 h2) h3]
theorem Ei (u x v y:Nat) (hx:x<4294967296) (hy:y<4294967296) :
    IntKind.u32.wrap (IntKind.u32.wrap (IntKind.u32.wrap ((u:Int)+bits .xor .u32 (bits .xor .u32 (ed x 7:Nat) (ed x 18:Nat)) ((x:Int)/8))+v)+bits .xor .u32 (bits .xor .u32 (ed y 17:Nat) (ed y 19:Nat)) ((y:Int)/1024)) =
      (add32 (add32 (add32 u (AC x)) v) (AB y):Nat):=by
  have e1:(x:Int)/8=((x/2 ^ 3:Nat):Int):=by omega
  have e2:(y:Int)/1024=((y/2 ^ 10:Nat):Int):=by omega
  rw [e1,e2,rE x 7 18 _ hx,rE y 17 19 _ hy,dR,dR,dR]
  rfl
theorem pz (x p q r:Nat) (hx:x<4294967296):bits .xor .u32 (bits .xor .u32 (ed x p:Nat) (ed x q:Nat)) (ed x r:Nat)=(((ed x p ^^^ ed x q) ^^^ ed x r:Nat):Int):=by
  have h1:=oL x p hx
  have h2:=oL x q hx
  have h3:=oL x r hx
  rw [u32_xor_nat _ _ h1 h2,u32_xor_nat _ _ (Nat.xor_lt_two_pow (n:=32) h1 h2) h3]
def St.ok (s:St):Prop:=s.a<4294967296∧s.b<4294967296∧s.c<4294967296∧s.d<4294967296∧s.e<4294967296∧s.f<4294967296∧s.g<4294967296∧s.h<4294967296
theorem KC {s:St} (h:St.ok s) (k w:Nat):St.ok (s.step k w):=⟨pJ _ _,h.1,h.2.1,h.2.2.1,pJ _ _,h.2.2.2.2.1,h.2.2.2.2.2.1,h.2.2.2.2.2.2.1⟩
theorem MQ {l:List Nat} (h:∀ x∈l,x<4294967296):St.ok (St.of l):=⟨kD l h _,kD l h _,kD l h _,kD l h _,kD l h _,kD l h _,kD l h _,kD l h _⟩
theorem vI (w:List Nat) {s:St} (h:St.ok s) (t:Nat):St.ok (rounds w s t):=by
  induction t with
  | zero=>exact h
  | succ t ih=>exact KC ih _ _
theorem Jm (e f g:Nat) (he:e<4294967296) (hf:f<4294967296) (hg:g<4294967296) :
    bits .xor .u32 (bits .and .u32 (e:Int) f) (bits .and .u32 (bits .xor .u32 (if IntKind.u32.signed=true then -1 else IntKind.u32.max) (e:Int)) g)=(chN e f g:Nat):=by
  have h1:(if IntKind.u32.signed=true then (-1:Int) else IntKind.u32.max)=((4294967295:Nat):Int):=ae
  have h2:(4294967295:Nat) ^^^ e<2 ^ 32:=Nat.xor_lt_two_pow ae he
  rw [h1,u32_and_nat e f he hf,u32_xor_nat _ e ae he,u32_and_nat _ g h2 hg,u32_xor_nat _ _ (Nat.lt_of_le_of_lt Nat.and_le_left he) (Nat.lt_of_le_of_lt Nat.and_le_right hg)]
  rfl
theorem KF (a b c:Nat) (ha:a<4294967296) (hb:b<4294967296) (hc:c<4294967296) :
    bits .xor .u32 (bits .xor .u32 (bits .and .u32 (a:Int) b) (bits .and .u32 (a:Int) c)) (bits .and .u32 (b:Int) c)=(Bv a b c:Nat):=by
  have h1:a &&& b<2 ^ 32:=Nat.lt_of_le_of_lt Nat.and_le_left ha
  have h2:a &&& c<2 ^ 32:=Nat.lt_of_le_of_lt Nat.and_le_left ha
  have h3:b &&& c<2 ^ 32:=Nat.lt_of_le_of_lt Nat.and_le_left hb
  rw [u32_and_nat a b ha hb,u32_and_nat a c ha hc,u32_and_nat b c hb hc,u32_xor_nat _ _ h1 h2,u32_xor_nat _ _ (Nat.xor_lt_two_pow (n:=32) h1 h2) h3]
  rfl
theorem Pj (a b c d e f g h k w:Nat) (ha:a<4294967296) (hb:b<4294967296) (hc:c<4294967296) (he:e<4294967296) (hf:f<4294967296) (hg:g<4294967296) :
    (((((((h:Int)+bits .xor .u32 (bits .xor .u32 (ed e 6:Nat) (ed e 11:Nat)) (ed e 25:Nat))%4294967296 +
      bits .xor .u32 (bits .and .u32 (e:Int) f) (bits .and .u32 (bits .xor .u32 (if IntKind.u32.signed=true then -1 else IntKind.u32.max) (e:Int)) g))%4294967296+k)%4294967296+w)%4294967296 +
      (bits .xor .u32 (bits .xor .u32 (ed a 2:Nat) (ed a 13:Nat)) (ed a 22:Nat)+bits .xor .u32 (bits .xor .u32 (bits .and .u32 (a:Int) b) (bits .and .u32 (a:Int) c)) (bits .and .u32 (b:Int) c))%4294967296)%4294967296) =
      ((St.step ⟨a,b,c,d,e,f,g,h⟩ k w).a:Nat):=by
  rw [pz e 6 11 25 he,pz a 2 13 22 ha,Jm e f g he hf hg,KF a b c ha hb hc]
  simp only [St.step,St.x,St.y,JA,MH,add32]
  omega
theorem Ph (a b c d e f g h k w:Nat) (he:e<4294967296) (hf:f<4294967296) (hg:g<4294967296) :
    ((d:Int)+(((((h:Int)+bits .xor .u32 (bits .xor .u32 (ed e 6:Nat) (ed e 11:Nat)) (ed e 25:Nat))%4294967296 +
      bits .xor .u32 (bits .and .u32 (e:Int) f) (bits .and .u32 (bits .xor .u32 (if IntKind.u32.signed=true then -1 else IntKind.u32.max) (e:Int)) g))%4294967296+k)%4294967296+w)%4294967296)%4294967296 =
      ((St.step ⟨a,b,c,d,e,f,g,h⟩ k w).e:Nat):=by
  rw [pz e 6 11 25 he,Jm e f g he hf hg]
  simp only [St.step,St.x,MH,add32]
  omega
def cur (st R:List Nat) (k:Nat):List Nat:=(List.range 8).map fun i=>if i<k then add32 (wAt st i) (wAt R i) else wAt st i
theorem jG (st R:List Nat) (k:Nat):(cur st R k).length=8:=by simp [cur]
theorem zJ (st R:List Nat) (h:st.length=8):cur st R 0=st:=by
  apply List.ext_getElem?
  intro i
  by_cases hi:i<8
  · simp [cur,hi,wAt,h]
  · simp [cur,hi,h]
theorem Dv (st R:List Nat):cur st R 8=(List.range 8).map fun i=>add32 (wAt st i) (wAt R i):=by
  unfold cur
  apply List.map_congr_left
  intro i hi
  rw [if_pos (by simpa using hi)]
theorem IC (st R:List Nat) (k:Nat) (hk:k<8):(wc (cur st R k))[k]? = some (.int .u32 (wAt st k:Nat)):=by simp [wc,cur,hk]
theorem zK (st R:List Nat) (k:Nat) (hk:k<8):(wc (cur st R k)).set k (.int .u32 (add32 (wAt st k) (wAt R k):Nat))=wc (cur st R (k+1)):=by
  apply List.ext_getElem?
  intro i
  rw [List.getElem?_set]
  by_cases h1:k=i
  · subst h1; simp [wc,cur,hk]
  · by_cases h2:i<8
    · have:i<k↔i<k+1:=by omega
      simp [wc,cur,h1,h2,this]
    · simp [wc,cur,h1,h2]
set_option maxRecDepth 100000 in
set_option maxHeartbeats 4000000 in
theorem take_any (w:World) (hb so:Nat) (T:TypeId) (cs:List Value) (st:List Nat) (hrow:w.heap[hb]? = some (.cells cs.toArray T (0,0))) (hst:(cs.drop so).take 8=wc st)
    (hl:st.length=8) (hstlt:∀ x∈st,x<4294967296) (hso:so+8≤cs.length) (pb po c:Nat) (bs:List UInt8)
    (hst':∀ i,i<8→w.cell? ⟨hb,so+i,none⟩=some (.int .u32 (wAt st i:Nat)))
    (hp:∀ i,i<64→w.cell? ⟨pb,po+i,none⟩=some (.int .u8 (bAt bs i).toNat)) (hpl:pb<w.heap.size) (hT:Tab w) :
    Calls Tryz.prog 197 #[.pointer (some ⟨hb,so,none⟩),.slice (some ⟨pb,po,none⟩) 64 c] w fun e w'=>e= .returned (.tuple #[])∧At w [(hb,T,splice cs so (wc (compress st bs)))] w':=by
  have hA0:=At.refl w
  go_enter Tryz.func197,Tryz.ntmps197
  go_wp2_with (first
    | (with_reducible refine jP rfl ?_
       refine wpList_plain rfl (fun _ hK=>iK rfl hA0 JC (fun n w1 hn hA1=>hK _ _ ?_)); clear hK
       replace hA1:At w [(n,260,filled [])] w1:=hA1))
  go_loopw [22] (fun i wr=>∃ k:Nat,k≤16∧i= .int .i64 k∧At w [(n,260,filled (words k bs))] wr) (fun i _=>16-(intOf i).toNat)
  case atStart=>exact ⟨0,ag,rfl,hA1⟩
  case round =>
    obtain ⟨k,hk,rfl,hAr⟩:=hrel
    by_cases hlt:k<16
    · go_wp2
      have e0:IntKind.i64.wrap (4*(k:Int))=4*k:=PX _ ag
      have e1:IntKind.i64.wrap (4*(k:Int)+1)=4*k+1:=PX _ ag
      have e2:IntKind.i64.wrap (4*(k:Int)+2)=4*k+2:=PX _ ag
      have e3:IntKind.i64.wrap (4*(k:Int)+3)=4*k+3:=PX _ ag
      have t0:(4*(k:Int)).toNat=4*k:=by omega
      have t1:(4*(k:Int)+1).toNat=4*k+1:=by omega
      have t2:(4*(k:Int)+2).toNat=4*k+2:=by omega
      have t3:(4*(k:Int)+3).toNat=4*k+3:=by omega
      have l0:0≤4*(k:Int)∧4*(k:Int)<64:=by omega
      have l1:0≤4*(k:Int)+1∧4*(k:Int)+1<64:=by omega
      have l2:0≤4*(k:Int)+2∧4*(k:Int)+2<64:=by omega
      have l3:0≤4*(k:Int)+3∧4*(k:Int)+3<64:=by omega
      have l4:(k:Int)<64:=by omega
      haveI:Nonempty { x:World // At w [(n,260,filled (words k bs))] x }:=⟨⟨_,hAr⟩⟩
      refine aT 35 [35] [0,1,2,3,4,5,6,7,8,9,10,11,12,13,14,15,16,17,18,19,20,21,22,23,24,25,26,27,28,29,30,31,32,33,34,35] (At w [(n,260,filled (words k bs))]) af af (hAr.drew) ?_
      refine ax O O (fun K hK=>?_); go_simp; refine hK _ ?_
      refine ax O O (fun K hK=>?_); go_simp; refine hK _ ?_
      refine ax O O (fun K hK=>?_); go_simp; refine hK _ ?_
      refine ax O O (fun K hK=>?_); go_simp; refine hK _ ?_
      refine ax O O (fun K hK=>?_); go_simp; refine hK _ ?_
      refine dP O O O _ (fun x hx=>bZ (v:= .int .u8 (bAt bs (4*k)).toNat) rfl rfl ((hx.old hpl (by simp; omega) _ _).trans (hp (4*k) ag)) af) ?_
      refine ax O O (fun K hK=>?_); go_simp; refine hK _ ?_
      refine ax O O (fun K hK=>?_); go_simp; refine hK _ ?_
      refine ax O O (fun K hK=>?_); go_simp; refine hK _ ?_
      refine ax O O (fun K hK=>?_); go_simp; refine hK _ ?_
      refine ax O O (fun K hK=>?_); go_simp; refine hK _ ?_
      refine ax O O (fun K hK=>?_); go_simp; refine hK _ ?_
      refine ax O O (fun K hK=>?_); go_simp; refine hK _ ?_
      refine dP O O O _ (fun x hx=>bZ (v:= .int .u8 (bAt bs (4*k+1)).toNat) rfl rfl ((hx.old hpl (by simp; omega) _ _).trans (hp (4*k+1) ag)) af) ?_
      refine ax O O (fun K hK=>?_); go_simp; refine hK _ ?_
      refine ax O O (fun K hK=>?_); go_simp; refine hK _ ?_
      refine ax O O (fun K hK=>?_); go_simp; refine hK _ ?_
      refine ax O O (fun K hK=>?_); go_simp; refine hK _ ?_
      refine ax O O (fun K hK=>?_); go_simp; refine hK _ ?_
      refine ax O O (fun K hK=>?_); go_simp; refine hK _ ?_
      refine ax O O (fun K hK=>?_); go_simp; refine hK _ ?_
      refine ax O O (fun K hK=>?_); go_simp; refine hK _ ?_
      refine dP O O O _ (fun x hx=>bZ (v:= .int .u8 (bAt bs (4*k+2)).toNat) rfl rfl ((hx.old hpl (by simp; omega) _ _).trans (hp (4*k+2) ag)) af) ?_
      refine ax O O (fun K hK=>?_); go_simp; refine hK _ ?_
      refine ax O O (fun K hK=>?_); go_simp; refine hK _ ?_
      refine ax O O (fun K hK=>?_); go_simp; refine hK _ ?_
      refine ax O O (fun K hK=>?_); go_simp; refine hK _ ?_
      refine ax O O (fun K hK=>?_); go_simp; refine hK _ ?_
      refine ax O O (fun K hK=>?_); go_simp; refine hK _ ?_
      refine ax O O (fun K hK=>?_); go_simp; refine hK _ ?_
      refine ax O O (fun K hK=>?_); go_simp; refine hK _ ?_
      refine dP O O O _ (fun x hx=>bZ (v:= .int .u8 (bAt bs (4*k+3)).toNat) rfl rfl ((hx.old hpl (by simp; omega) _ _).trans (hp (4*k+3) ag)) af) ?_
      refine ax O O (fun K hK=>?_); go_simp; refine hK _ ?_
      refine ax O O (fun K hK=>?_); go_simp; refine hK _ ?_
      refine ax O O (fun K hK=>?_); go_simp; refine hK _ ?_
      refine fF O O O (fun K hK=>eH (off:=k) rfl hAr.drew rfl (oH (F7 _ _ _ _)) 0 O (by rw [nT _ (by rw [jh]; omega)]; omega) rfl sS (fun w4 hA4=>hK _ _ (fun h=>absurd h ae) ?_))
      clear e0 e1 e2 e3 t0 t1 t2 t3
      replace hA4:At w [(n,260,filled (words (k+1) bs))] w4:=by rw [← Eb k bs hlt]; exact hA4
      refine bG ?_
      go_wp2
      go_roundw
      case rel=>exact ⟨k+1,ag,by go_num,hA4⟩
      case measure=>simp [intOf]; omega
    · obtain rfl:k=16:=by omega
      go_wp2
      replace hAr:At w [(n,260,filled (sched 0 (words 16 bs)))] wr:=hAr
      generalize wr=w2 at hAr
      go_loopw [6] (fun i wr=>∃ k:Nat,16≤k∧k≤64∧i= .int .i64 k∧At w [(n,260,filled (sched (k-16) (words 16 bs)))] wr) (fun i _=>64-(intOf i).toNat)
      case atStart=>exact ⟨16,ag,ag,rfl,hAr⟩
      case round =>
        clear hAr hA1 hk
        obtain ⟨k,hk1,hk2,rfl,hAr⟩:=hrel
        by_cases hlt:k<64
        · obtain ⟨V,hV⟩:∃ V,V=sched (k-16) (words 16 bs):=⟨_,rfl⟩
          have hVl:V.length=k:=by rw [hV,oK,jh]; omega
          have hVlt:∀ x∈V,x<4294967296:=by rw [hV]; exact sU _ _ (su _ _)
          have HVs:=Lib.hid (show V++[nN V]=sched (k+1-16) (words 16 bs) by rw [hV,show k+1-16=(k-16)+1 by omega]; rfl)
          rw [← hV] at hAr
          clear hV
          have hx:wAt V (k-15)<4294967296:=kD V hVlt _
          have hy:wAt V (k-2)<4294967296:=kD V hVlt _
          have hxv:=lw V (k-15) ag
          have hyv:=lw V (k-2) ag
          have h16:=lw V (k-16) ag
          have h7:=lw V (k-7) ag
          obtain ⟨x,hxe⟩:∃ x,x=wAt V (k-15):=⟨_,rfl⟩
          obtain ⟨y,hye⟩:∃ y,y=wAt V (k-2):=⟨_,rfl⟩
          obtain ⟨u,hue⟩:∃ u,u=wAt V (k-16):=⟨_,rfl⟩
          obtain ⟨v,hve⟩:∃ v,v=wAt V (k-7):=⟨_,rfl⟩
          rw [← hxe] at hx hxv
          rw [← hye] at hy hyv
          rw [← hue] at h16
          rw [← hve] at h7
          have HN:=Lib.hid (show add32 (add32 (add32 u (AC x)) v) (AB y)=nN V by unfold nN; rw [hVl,hxe,hye,hue,hve])
          have Hxv:=Lib.hid hxv
          have Hyv:=Lib.hid hyv
          have H16:=Lib.hid h16
          have H7:=Lib.hid h7
          have HVl:=Lib.hid hVl
          have HVlt:=Lib.hid hVlt
          clear hxe hye hue hve hxv hyv h16 h7 hVl hVlt
          have l0:(16:Int)≤k:=by omega
          have l1:(15:Int)≤k:=by omega
          have l2:(7:Int)≤k:=by omega
          have l3:(2:Int)≤k:=by omega
          have l5:(k:Int)-15<64:=by omega
          have l6:(k:Int)-2<64:=by omega
          have l7:(k:Int)-7<64:=by omega
          have l8:(k:Int)-16<64:=by omega
          have l9:(k:Int)<64:=by omega
          go_wp2
          have e0:IntKind.i64.wrap ((k:Int)-15)=(k:Int)-15:=PX _ ag
          have e1:IntKind.i64.wrap ((k:Int)-2)=(k:Int)-2:=PX _ ag
          have e2:IntKind.i64.wrap ((k:Int)-7)=(k:Int)-7:=PX _ ag
          have e3:IntKind.i64.wrap ((k:Int)-16)=(k:Int)-16:=PX _ ag
          have t0:((k:Int)-15).toNat=k-15:=by omega
          have t1:((k:Int)-2).toNat=k-2:=by omega
          have t2:((k:Int)-7).toNat=k-7:=by omega
          have t3:((k:Int)-16).toNat=k-16:=by omega
          haveI:Nonempty { x:World // At w [(n,260,filled V)] x }:=⟨⟨_,hAr⟩⟩
          refine aT 9 [9] [0,1,2,3,4,5,6,7,8,9] (At w [(n,260,filled V)]) af af (hAr.drew) ?_
          refine ax O O (fun K hK=>?_); go_simp; refine hK _ ?_
          refine ax O O (fun K hK=>?_); go_simp; refine hK _ ?_
          refine ax O O (fun K hK=>?_); go_simp; refine hK _ ?_
          refine dP O O O _ (fun x hx=>fZ rfl hx (off:=k-15) rfl 0 O Hxv.out af) ?_
          refine ax O O (fun K hK=>?_); go_simp; refine hK _ ?_
          refine ax O O (fun K hK=>?_); go_simp; refine hK _ ?_
          refine ax O O (fun K hK=>?_); go_simp; refine hK _ ?_
          refine dP O O O _ (fun x hx=>fZ rfl hx (off:=k-2) rfl 0 O Hyv.out af) ?_
          refine ax O O (fun K hK=>?_); go_simp; refine hK _ ?_
          refine fF O O O (fun K hK=>?_); go_simp
          refine hK _ _ (fun h=>absurd h ae) ?_
          refine bG ?_
          go_wp2_with fail
          have hA3:=hAr.drew
          generalize wr.drew=w3 at hA3 ⊢
          refine aT 29 [6,8,20,22,29] [0,1,2,3,4,5,7,10,11,14,15,16,17,19,21,24,25,6,8,9,12,13,18,20,22,23,26,27,28,29] (At w [(n,260,filled V)]) af af (hA3.drew) ?_
          refine ax O O (fun K hK=>?_); go_simp; refine hK _ ?_
          refine ax O O (fun K hK=>?_); go_simp; refine hK _ ?_
          refine ax O O (fun K hK=>?_); go_simp; refine hK _ ?_
          refine ax O O (fun K hK=>?_); go_simp; refine hK _ ?_
          refine dP O O O _ (fun x hx=>fZ rfl hx (off:=k-16) rfl 0 O H16.out af) ?_
          refine ax O O (fun K hK=>?_); go_simp; refine hK _ ?_
          refine ax O O (fun K hK=>?_); go_simp; refine hK _ ?_
          refine ax O O (fun K hK=>?_); go_simp; refine hK _ ?_
          refine ax O O (fun K hK=>?_); go_simp; refine hK _ ?_
          refine ax O O (fun K hK=>?_); go_simp; refine hK _ ?_
          refine ax O O (fun K hK=>?_); go_simp; refine hK _ ?_
          refine ax O O (fun K hK=>?_); go_simp; refine hK _ ?_
          refine dP O O O _ (fun x hx=>fZ rfl hx (off:=k-7) rfl 0 O H7.out af) ?_
          refine ax O O (fun K hK=>?_); go_simp; refine hK _ ?_
          refine ax O O (fun K hK=>?_); go_simp; refine hK _ ?_
          refine ax O O (fun K hK=>?_); go_simp; refine hK _ ?_
          refine ax O O (fun K hK=>?_); go_simp; refine hK _ ?_
          refine fF O O O (fun K hK=>?_); go_simp
          with_reducible refine (jI _ 7 7 O hx ae ae _).mono ?_
          rintro e w' ⟨rfl,nq,rfl⟩
          go_simp
          refine hK _ _ (fun _=>(hA3.drewN _)) ?_
          refine fF O O O (fun K hK=>?_); go_simp
          with_reducible refine (jI _ 18 18 rfl hx ae ae _).mono ?_
          rintro e w' ⟨rfl,nq,rfl⟩
          go_simp
          refine hK _ _ (fun _=>(hA3.drewN _)) ?_
          refine ax O O (fun K hK=>?_); go_simp; refine hK _ ?_
          refine ax O O (fun K hK=>?_); go_simp; refine hK _ ?_
          refine ax O O (fun K hK=>?_); go_simp; refine hK _ ?_
          refine ax O O (fun K hK=>?_); go_simp; refine hK _ ?_
          refine fF O O O (fun K hK=>?_); go_simp
          with_reducible refine (jI _ 17 17 rfl hy ae ae _).mono ?_
          rintro e w' ⟨rfl,nq,rfl⟩
          go_simp
          refine hK _ _ (fun _=>(hA3.drewN _)) ?_
          refine fF O O O (fun K hK=>?_); go_simp
          with_reducible refine (jI _ 19 19 rfl hy ae ae _).mono ?_
          rintro e w' ⟨rfl,nq,rfl⟩
          go_simp
          refine hK _ _ (fun _=>(hA3.drewN _)) ?_
          refine ax O O (fun K hK=>?_); go_simp; refine hK _ ?_
          refine ax O O (fun K hK=>?_); go_simp; refine hK _ ?_
          refine ax O O (fun K hK=>?_); go_simp; refine hK _ ?_
          refine ax O O (fun K hK=>?_); go_simp; refine hK _ ?_
          refine fF O O O (fun K hK=>eH (off:=k) rfl (hA3.drewN _) rfl (v:= .int .u32 ((nN V:Nat):Int)) (oH (by rw [Ei u x v y hx hy,HN.out])) 0 O (by rw [nT _ (by rw [HVl.out]; omega)]; omega) rfl sS (fun w4 hA4=>hK _ _ (fun h=>absurd h ae) ?_))
          clear e0 e1 e2 e3 t0 t1 t2 t3
          replace hA4:At w [(n,260,filled (sched (k+1-16) (words 16 bs)))] w4:=by
            have e:=uf V (nN V) (by rw [HVl.out]; exact hlt)
            rw [HVl.out] at e
            rw [← HVs.out,← e]; exact hA4
          refine bG ?_
          go_wp2
          go_roundw
          case rel =>
            refine ⟨_,_,_,_,_,_,_,_,_,_,_,_,_,_,_,_,_,_,_,_,_,_,_,_,_,_,_,_,_,_,_,_,_,_,_,_,_,_,_,_,_,_,_,_,?_,rfl⟩
            exact ⟨k+1,ag,ag,by go_num,hA4⟩
          case measure=>simp [intOf]; omega
        · obtain rfl:k=64:=by omega
          replace hAr:At w [(n,260,filled (sched 48 (words 16 bs)))] wr:=hAr
          obtain ⟨Wd,hWd⟩:∃ Wd,Wd=sched 48 (words 16 bs):=⟨_,rfl⟩
          have HWl:=Lib.hid (show Wd.length=64 by rw [hWd,oK,jh])
          have HWlt:=Lib.hid (show ∀ x∈Wd,x<4294967296 by rw [hWd]; exact sU _ _ (su _ _))
          have HC:=Lib.hid (show (List.range 8).map (fun i=>add32 (wAt st i) (wAt (rounds Wd (St.of st) 64).list i))=compress st bs by rw [hWd]; rfl)
          rw [← hWd] at hAr
          clear hWd
          go_wp2
          haveI:Nonempty { x:World // At w [(n,260,filled Wd)] x }:=⟨⟨_,hAr⟩⟩
          have hbl:hb<w.heap.size:=jF hrow
          have hbn:hb ∉ [((n,260,filled Wd):Row)].map (·.1):=by simp; omega
          refine aT 39 [39] [0,1,2,3,4,5,6,7,8,9,10,11,12,13,14,15,16,17,18,19,20,21,22,23,24,25,26,27,28,29,30,31,32,33,34,35,36,37,38,39] (At w [(n,260,filled Wd)]) af af (hAr.drew) ?_
          refine ax O O (fun K hK=>?_); go_simp; refine hK _ ?_
          refine ax O O (fun K hK=>?_); go_simp; refine hK _ ?_
          refine ax O O (fun K hK=>?_); go_simp; refine hK _ ?_
          refine dP O O O _ (fun x hx=>bZ (v:= .int .u32 (wAt st 0:Nat)) O O ((hx.old hbl hbn _ _).trans (hst' 0 ae)) af) ?_
          refine ax O O (fun K hK=>?_); go_simp; refine hK _ ?_
          refine ax O O (fun K hK=>?_); go_simp; refine hK _ ?_
          refine ax O O (fun K hK=>?_); go_simp; refine hK _ ?_
          refine dP O O O _ (fun x hx=>bZ (v:= .int .u32 (wAt st 1:Nat)) O O ((hx.old hbl hbn _ _).trans (hst' 1 ae)) af) ?_
          refine ax O O (fun K hK=>?_); go_simp; refine hK _ ?_
          refine ax O O (fun K hK=>?_); go_simp; refine hK _ ?_
          refine ax O O (fun K hK=>?_); go_simp; refine hK _ ?_
          refine dP O O O _ (fun x hx=>bZ (v:= .int .u32 (wAt st 2:Nat)) O O ((hx.old hbl hbn _ _).trans (hst' 2 ae)) af) ?_
          refine ax O O (fun K hK=>?_); go_simp; refine hK _ ?_
          refine ax O O (fun K hK=>?_); go_simp; refine hK _ ?_
          refine ax O O (fun K hK=>?_); go_simp; refine hK _ ?_
          refine dP O O O _ (fun x hx=>bZ (v:= .int .u32 (wAt st 3:Nat)) O O ((hx.old hbl hbn _ _).trans (hst' 3 ae)) af) ?_
          refine ax O O (fun K hK=>?_); go_simp; refine hK _ ?_
          refine ax O O (fun K hK=>?_); go_simp; refine hK _ ?_
          refine ax O O (fun K hK=>?_); go_simp; refine hK _ ?_
          refine dP O O O _ (fun x hx=>bZ (v:= .int .u32 (wAt st 4:Nat)) O O ((hx.old hbl hbn _ _).trans (hst' 4 ae)) af) ?_
          refine ax O O (fun K hK=>?_); go_simp; refine hK _ ?_
          refine ax O O (fun K hK=>?_); go_simp; refine hK _ ?_
          refine ax O O (fun K hK=>?_); go_simp; refine hK _ ?_
          refine dP O O O _ (fun x hx=>bZ (v:= .int .u32 (wAt st 5:Nat)) O O ((hx.old hbl hbn _ _).trans (hst' 5 ae)) af) ?_
          refine ax O O (fun K hK=>?_); go_simp; refine hK _ ?_
          refine ax O O (fun K hK=>?_); go_simp; refine hK _ ?_
          refine ax O O (fun K hK=>?_); go_simp; refine hK _ ?_
          refine dP O O O _ (fun x hx=>bZ (v:= .int .u32 (wAt st 6:Nat)) O O ((hx.old hbl hbn _ _).trans (hst' 6 ae)) af) ?_
          refine ax O O (fun K hK=>?_); go_simp; refine hK _ ?_
          refine ax O O (fun K hK=>?_); go_simp; refine hK _ ?_
          refine ax O O (fun K hK=>?_); go_simp; refine hK _ ?_
          refine dP O O O _ (fun x hx=>bZ (v:= .int .u32 (wAt st 7:Nat)) O O ((hx.old hbl hbn _ _).trans (hst' 7 ae)) af) ?_
          refine ax O O (fun K hK=>?_); go_simp; refine hK _ ?_
          refine ax O O (fun K hK=>?_); go_simp; refine hK _ ?_
          refine ax O O (fun K hK=>?_); go_simp; refine hK _ ?_
          refine ax O O (fun K hK=>?_); go_simp; refine hK _ ?_
          refine ax O O (fun K hK=>?_); go_simp; refine hK _ ?_
          refine ax O O (fun K hK=>?_); go_simp; refine hK _ ?_
          refine ax O O (fun K hK=>?_); go_simp; refine hK _ ?_
          refine fF O O O (fun K hK=>?_); go_simp
          refine hK _ _ (fun h=>absurd h ae) ?_
          refine bG ?_
          go_wp2
          have hA3:=hAr.drew
          generalize wr.drew=w3 at hA3 ⊢
          go_loopw [9,10,11,12,13,14,15,16,134] (fun va vb vc vd ve vf vg vh i wr=>∃ t:Nat,t≤64∧i= .int .i64 t∧va= .int .u32 ((rounds Wd (St.of st) t).a:Nat)∧vb= .int .u32 ((rounds Wd (St.of st) t).b:Nat)∧vc= .int .u32 ((rounds Wd (St.of st) t).c:Nat)∧vd= .int .u32 ((rounds Wd (St.of st) t).d:Nat)∧ve= .int .u32 ((rounds Wd (St.of st) t).e:Nat)∧vf= .int .u32 ((rounds Wd (St.of st) t).f:Nat)∧vg= .int .u32 ((rounds Wd (St.of st) t).g:Nat)∧vh= .int .u32 ((rounds Wd (St.of st) t).h:Nat)∧At w [(n,260,filled Wd)] wr) (fun _ _ _ _ _ _ _ _ i _=>64-(intOf i).toNat)
          case atStart=>exact ⟨0,ag,rfl,rfl,rfl,rfl,rfl,rfl,rfl,rfl,rfl,hA3⟩
          case round =>
            clear hAr hA3
            obtain ⟨t,ht,rfl,rfl,rfl,rfl,rfl,rfl,rfl,rfl,rfl,hAr⟩:=hrel
            by_cases hlt:t<64
            · obtain ⟨S,hS⟩:∃ S,S=rounds Wd (St.of st) t:=⟨_,rfl⟩
              have hok:St.ok S:=by rw [hS]; exact vI _ (MQ hstlt) t
              have HN:=Lib.hid (show S.step (wAt ks t) (wAt Wd t)=rounds Wd (St.of st) (t+1) by rw [hS]; rfl)
              rw [← hS]
              clear hS
              obtain ⟨a,b,c',d,e,f,g,h⟩:=S
              obtain ⟨ha,hb',hc,hd,he,hf,hg,hh⟩:=hok
              have Hw:=Lib.hid (lw Wd t (by rw [HWl.out]; exact hlt))
              have hti:(t:Int)<64:=by omega
              go_wp2
              have hg0:2<w.heap.size:=hT.lt
              have hgn:2 ∉ [((n,260,filled Wd):Row)].map (·.1):=by simp; omega
              haveI:Nonempty { x:World // At w [(n,260,filled Wd)] x }:=⟨⟨_,hAr⟩⟩
              refine aT 27 [2,4,7,27] [0,1,3,6,10,11,12,13,14,15,16,17,19,20,21,23,24,25,2,4,5,7,8,9,18,22,26,27] (At w [(n,260,filled Wd)]) af af (hAr.drew) ?_
              refine ax O O (fun K hK=>?_); go_simp; refine hK _ ?_
              refine ax O O (fun K hK=>?_); go_simp; refine hK _ ?_
              refine ax O O (fun K hK=>?_); go_simp; refine hK _ ?_
              refine ax O O (fun K hK=>?_); go_simp; refine hK _ ?_
              refine ax O O (fun K hK=>?_); go_simp; refine hK _ ?_
              refine ax O O (fun K hK=>?_); go_simp; refine hK _ ?_
              refine ax O O (fun K hK=>?_); go_simp; refine hK _ ?_
              refine ax O O (fun K hK=>?_); go_simp; refine hK _ ?_
              refine ax O O (fun K hK=>?_); go_simp; refine hK _ ?_
              refine ax O O (fun K hK=>?_); go_simp; refine hK _ ?_
              refine ax O O (fun K hK=>?_); go_simp; refine hK _ ?_
              refine ax O O (fun K hK=>?_); go_simp; refine hK _ ?_
              refine ax O O (fun K hK=>?_); go_simp; refine hK _ ?_
              refine ax O O (fun K hK=>?_); go_simp; refine hK _ ?_
              refine dP O O O _ (fun x hx=>bZ (v:= .int .u32 (wAt ks t:Nat)) O O ((hx.old hg0 hgn _ _).trans (hT t hlt)) af) ?_
              refine ax O O (fun K hK=>?_); go_simp; refine hK _ ?_
              refine ax O O (fun K hK=>?_); go_simp; refine hK _ ?_
              refine dP O O O _ (fun x hx=>fZ rfl hx (off:=t) rfl 0 O Hw.out af) ?_
              refine fF O O O (fun K hK=>?_); go_simp
              with_reducible refine (jI _ 6 6 O he ae ae _).mono ?_
              rintro e' w' ⟨rfl,nq,rfl⟩
              go_simp
              refine hK _ _ (fun _=>(hAr.drewN _)) ?_
              refine fF O O O (fun K hK=>?_); go_simp
              with_reducible refine (jI _ 11 11 rfl he ae ae _).mono ?_
              rintro e' w' ⟨rfl,nq,rfl⟩
              go_simp
              refine hK _ _ (fun _=>(hAr.drewN _)) ?_
              refine ax O O (fun K hK=>?_); go_simp; refine hK _ ?_
              refine fF O O O (fun K hK=>?_); go_simp
              with_reducible refine (jI _ 25 25 rfl he ae ae _).mono ?_
              rintro e' w' ⟨rfl,nq,rfl⟩
              go_simp
              refine hK _ _ (fun _=>(hAr.drewN _)) ?_
              refine ax O O (fun K hK=>?_); go_simp; refine hK _ ?_
              refine ax O O (fun K hK=>?_); go_simp; refine hK _ ?_
              refine ax O O (fun K hK=>?_); go_simp; refine hK _ ?_
              refine ax O O (fun K hK=>?_); go_simp; refine hK _ ?_
              refine ax O O (fun K hK=>?_); go_simp; refine hK _ ?_
              refine fF O O O (fun K hK=>?_); go_simp
              refine hK _ _ (fun h=>absurd h ae) ?_
              refine bG ?_
              go_wp2_with (first
                | (go_at_call 208; with_reducible refine (jI _ 2 2 rfl ha ae ae _).mono ?_; rintro e' w' ⟨rfl,nq,rfl⟩)
                | (go_at_call 208; with_reducible refine (jI _ 13 13 rfl ha ae ae _).mono ?_; rintro e' w' ⟨rfl,nq,rfl⟩)
                | (go_at_call 208; with_reducible refine (jI _ 22 22 rfl ha ae ae _).mono ?_; rintro e' w' ⟨rfl,nq,rfl⟩))
              go_roundw
              case rel=>exact ⟨t+1,ag,by go_num,by rw [← HN.out]; exact oH (Pj a b c' d e f g h (wAt ks t) (wAt Wd t) ha hb' hc he hf hg),by rw [← HN.out]; rfl,by rw [← HN.out]; rfl,by rw [← HN.out]; rfl,
                by rw [← HN.out]; exact oH (Ph a b c' d e f g h (wAt ks t) (wAt Wd t) he hf hg),by rw [← HN.out]; rfl,by rw [← HN.out]; rfl,by rw [← HN.out]; rfl,hAr.drewN _⟩
              case measure=>simp [intOf]; omega
            · obtain rfl:t=64:=by omega
              obtain ⟨S,hS⟩:∃ S,S=rounds Wd (St.of st) 64:=⟨_,rfl⟩
              rw [← hS] at HC ⊢
              obtain ⟨R,hR⟩:∃ R,R=S.list:=⟨_,rfl⟩
              have hRl:R.length=8:=by rw [hR]; rfl
              have HRc:=Lib.hid (show (wc R).toArray = #[.int .u32 (S.a:Nat),.int .u32 (S.b:Nat),.int .u32 (S.c:Nat),.int .u32 (S.d:Nat),.int .u32 (S.e:Nat),.int .u32 (S.f:Nat),.int .u32 (S.g:Nat),.int .u32 (S.h:Nat)] by rw [hR]; rfl)
              rw [← hR] at HC
              have HR:=Lib.hid hRl
              clear hS hR hRl
              have hAh:=hAr.add hrow hbn
              have HCS:=Lib.hid (show splice cs so (wc (cur st R 0))=cs by rw [zJ st R hl]; exact x8 (by rw [bf,hl]; exact hst))
              replace hAh:At w [(n,260,filled Wd),(hb,T,splice cs so (wc (cur st R 0)))] wr:=by rw [HCS.out]; exact hAh
              go_wp2
              go_loopw [206] (fun i wr=>∃ k:Nat,k≤8∧i= .int .i64 k∧At w [(n,260,filled Wd),(hb,T,splice cs so (wc (cur st R k)))] wr) (fun i _=>8-(intOf i).toNat)
              case atStart=>exact ⟨0,ag,rfl,hAh⟩
              case round =>
                clear hAh hAr
                obtain ⟨k,hk,rfl,hAr⟩:=hrel
                have HLn:=Lib.hid (show (splice cs so (wc (cur st R k))).length=cs.length from uD (by rw [bf,jG]; exact hso))
                by_cases hlt:k<8
                · have Hat:=Lib.hid (show (splice cs so (wc (cur st R k)))[so+k]? = some (.int .u32 (wAt st k:Nat)) by rw [Eg (by rw [bf,jG]; exact hso) (by rw [bf,jG]; exact hlt)]; exact IC st R k hlt)
                  have Hstep:=Lib.hid (show (splice cs so (wc (cur st R k))).set (so+k) (.int .u32 (add32 (wAt st k) (wAt R k):Nat))=splice cs so (wc (cur st R (k+1))) by rw [Aw _ (by rw [bf,jG]; exact hso) (by rw [bf,jG]; exact hlt),zK st R k hlt])
                  have hki:(k:Int)<8:=by omega
                  have Hv:Hid ((#[.int .u32 (S.a:Nat),.int .u32 (S.b:Nat),.int .u32 (S.c:Nat),.int .u32 (S.d:Nat),.int .u32 (S.e:Nat),.int .u32 (S.f:Nat),.int .u32 (S.g:Nat),.int .u32 (S.h:Nat)]:Array Value)[k]? = some (.int .u32 (wAt R k:Nat))):=by
                    rw [← HRc.out]; exact (show (wc R).toArray[k]? = some (.int .u32 (wAt R k:Nat)) from by simp [wc,wAt,HR.out,hlt])
                  go_wp2_with (first
                    | (with_reducible refine Ae rfl ?_
                       refine wpList_plain rfl (fun _ hK=>qy rfl Qq af sS rfl rfl hlt Hv.out (hK _ _ ?_)); clear hK))
                  haveI:Nonempty { x:World // At w [(n,260,filled Wd),(hb,T,splice cs so (wc (cur st R k)))] x }:=⟨⟨_,hAr⟩⟩
                  refine aT 9 [9] [0,1,2,3,4,5,6,7,8,9] (At w [(n,260,filled Wd),(hb,T,splice cs so (wc (cur st R k)))]) af af (hAr.drew) ?_
                  refine ax O O (fun K hK=>?_); go_simp; refine hK _ ?_
                  refine ax O O (fun K hK=>?_); go_simp; refine hK _ ?_
                  refine ax O O (fun K hK=>?_); go_simp; refine hK _ ?_
                  refine ax O O (fun K hK=>?_); go_simp; refine hK _ ?_
                  refine dP O O O _ (fun x hx=>fZ rfl hx (off:=so+k) rfl 1 O Hat.out af) ?_
                  refine ax O O (fun K hK=>?_); go_simp; refine hK _ ?_
                  refine ax O O (fun K hK=>?_); go_simp; refine hK _ ?_
                  refine ax O O (fun K hK=>?_); go_simp; refine hK _ ?_
                  refine ax O O (fun K hK=>?_); go_simp; refine hK _ ?_
                  refine fF O O O (fun K hK=>eH (off:=so+k) rfl hAr.drew rfl (oH (dR _ _)) 1 O (by rw [HLn.out]; omega) rfl sS (fun w4 hA4=>hK _ _ (fun h=>absurd h ae) ?_))
                  replace hA4:At w [(n,260,filled Wd),(hb,T,splice cs so (wc (cur st R (k+1))))] w4:=by rw [← Hstep.out]; exact hA4
                  refine bG ?_
                  go_wp2
                  go_roundw
                  case rel =>
                    refine ⟨_,_,_,_,_,_,_,_,_,_,_,_,_,_,_,_,?_,rfl⟩
                    exact ⟨k+1,ag,by go_num,hA4⟩
                  case measure=>simp [intOf]; omega
                · obtain rfl:k=8:=by omega
                  replace hAr:At w [(n,260,filled Wd),(hb,T,splice cs so (wc (compress st bs)))] wr:=by rw [← HC.out,← Dv]; exact hAr
                  go_wp2
                  go_end0
                  exact ⟨rfl,hAr.drop (List.Sublist.cons _ (List.Sublist.refl _)) (fun r hr hlt'=>by
                    simp only [List.mem_cons,List.not_mem_nil,or_false] at hr
                    rcases hr with rfl | rfl
                    · simp only at hlt'; omega
                    · simp)⟩
end Go.Proofs.YtepbmdlgdaedpaaGreatDoor
