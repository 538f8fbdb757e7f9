/- What leads to the law, part 4. Conditions: each lemma's own. -/
import Derived.Test.YtdggohppeeaipaaGreatKBM3
set_option linter.unusedVariables false
set_option linter.unusedSimpArgs false
namespace Go.Proofs.YtdggohppeeaipaaGreat
open Go.RowKit
theorem mw (z:Array Value) (n:Nat):(Builtin.zeroCells z n).toList.length=n*z.size:=by rw [Array.length_toList,size_zeroCells]
theorem aZ {w:World} {g:Nat} {o:Obj} (h:w.heap[g]? = some o):g<w.heap.size:=(Array.getElem?_eq_some_iff.1 h).1
theorem b_:(Tryz.prog.info? 44).map (·.size)=some 4:=by kernel_rfl
theorem xN:(Tryz.prog.info? 44).map (fun i=>(i.zero,i.size,i.bytes))=some (some (.agg #[.int .i64 0,.int .i64 0,.int .i64 0,.int .i64 0]),4,32):=by kernel_rfl
set_option maxRecDepth 100000 in
set_option maxHeartbeats 1000000 in
theorem qc {w:World} {n c vc:Nat} {A:Option Addr} {B:Option Addr} {φ:Value->World->Prop} (happ:∀ (F:Fr) (x y:Operand) (ty:TypeId),ev F x=some (.slice A n c)->ev F y=some (.slice B 1 vc)->∃ v2 w2,aK Tryz.prog 95 F w (.call { callee:=.builtin .append,args:=#[x,y],argTypes:=#[22,22] }) ty v2 w2/\φ v2 w2) :
  gy Tryz.prog 36 [.slice A n c,.int .i64 (n:Int),.slice B 1 vc].toArray w φ:=by
 refine gy.enter Tryz.func36 rfl rfl rfl rfl ?_
 refine WC.seq ?_
 refine WC.region ?_
 refine WO.v (R.assign rfl) rfl ?_
 refine WO.nil ?_
 refine WX.next ?_
 refine WC.seq ?_
 refine WC.region ?_
 refine WO.v (R.move rfl) rfl ?_
 refine WO.v (R.move rfl) rfl ?_
 refine WO.v (R.bU rfl rfl Tryz.underlying22 b_ rfl (by omega)) rfl ?_
 refine WO.nil ?_
 refine WX.next ?_
 refine WC.seq ?_
 refine WC.region ?_
 refine WO.v (R.move rfl) rfl ?_
 refine WO.v (R.len rfl Tryz.underlying22) rfl ?_
 refine WO.v (R.assign rfl) rfl ?_
 refine WO.nil ?_
 refine WX.next ?_
 refine WC.seq ?_
 refine WC.seq ?_
 refine WC.region ?_
 refine WO.v (R.move rfl) rfl ?_
 refine WO.v (R.eql rfl rfl) rfl ?_
 refine WO.nil ?_
 refine WX.next ?_
 refine WC.cond rfl (fun q=>absurd (of_decide_eq_true q) (by omega)) (fun _=>?_)
 refine WC.skip ?_
 refine WX.next ?_
 refine WC.seq ?_
 refine WC.region ?_
 refine WO.v (R.move rfl) rfl ?_
 refine WO.v (R.len rfl Tryz.underlying22) rfl ?_
 refine WO.v (R.assign rfl) rfl ?_
 refine WO.nil ?_
 refine WX.next ?_
 refine WC.seq ?_
 refine WC.seq ?_
 refine WC.region ?_
 refine WO.v (R.move rfl) rfl ?_
 refine WO.v (R.move rfl) rfl ?_
 refine WO.v (R.eql rfl rfl) rfl ?_
 refine WO.nil ?_
 refine WX.next ?_
 refine WC.cond rfl (fun _=>?_) (fun q=>absurd rfl (of_decide_eq_false q))
 refine WC.seq ?_
 refine WC.region ?_
 refine WO.v (R.move rfl) rfl ?_
 refine WO.v (R.move rfl) rfl ?_
 refine WO.ve (happ _ _ _ _ rfl rfl) rfl fun v2 w2 hv2=>?_
 refine WO.v (R.assign rfl) rfl ?_
 refine WO.nil ?_
 refine WX.next ?_
 refine WC.ret ?_
 refine WX.ga ?_
 refine WX.sd rfl rfl ?_
 exact hv2
set_option maxRecDepth 100000 in
set_option maxHeartbeats 1000000 in
theorem oP {w W1:World} {g b n i c vc G:Nat} {ad:Addr} {cur vs ds:List Value} (hi:i<n) (hnc:n<=c) (hc:c<n+1) (hcm:c<=maxLen) (hG:n+1<=G) (hGm:G<=maxLen)
  (happ:∀ (F:Fr) (x y:Operand) (ty:TypeId),ev F x=some (.slice (some ⟨g,0*4,none⟩) i c)->ev F y=some (.int .i64 ((n+1 - i:Nat):Int))->aK Tryz.prog 95 F w (.call { callee:=.builtin .append,args:=#[x,y],argTypes:=#[22,3] }) ty (.slice (some ⟨b,0,none⟩) (n+1) G) W1)
  (hrow:W1.heap[b]? = some (.cells cur.toArray 44 (0,0))) (hcur:(n+1)*4<=cur.length) (hv:CellsAt W1 ad vs) (hvl:vs.length=4) (hd:CellsAt W1 ⟨g,i*4,none⟩ ds) (hgb:g≠b) (hgl:g<W1.heap.size) (hdl:ds.length=(n - i)*4)
  (h1v:∀ u ∈ vs,u.oneCell' = true) (h1d:∀ u ∈ ds,u.oneCell' = true) :
  gy Tryz.prog 36 [.slice (some ⟨g,0,none⟩) n c,.int .i64 (i:Int),.slice (some ad) 1 vc].toArray w fun v w'=>v = .slice (some ⟨b,0,none⟩) (n+1) G/\∃ w1,Kp [] (W1.setRow b (cur.take (i*4)++vs++cur.drop (i*4+vs.length)).toArray) w1/\w' = w1.setRow b ((cur.take (i*4)++vs++cur.drop (i*4+vs.length)).take ((i+1)*4)++ds++(cur.take (i*4)++vs++cur.drop (i*4+vs.length)).drop ((i+1)*4+ds.length)).toArray:=by
 have hGm:G<=9223372036854775807:=hGm
 have hcm:c<=9223372036854775807:=hcm
 have hn1:vs.length=Nat.min 1 (n+1 - i)*4:=by rw [show Nat.min 1 (n+1 - i)=1 from Nat.min_eq_left (by omega),Nat.one_mul]; exact hvl
 have hn2:ds.length=Nat.min (n - i) (n+1 - (i+1))*4:=by rw [show Nat.min (n - i) (n+1 - (i+1))=n - i from Nat.min_eq_left (by omega)]; exact hdl
 refine gy.enter Tryz.func36 rfl rfl rfl rfl ?_
 refine WC.seq ?_
 refine WC.region ?_
 refine WO.v (R.assign rfl) rfl ?_
 refine WO.nil ?_
 refine WX.next ?_
 refine WC.seq ?_
 refine WC.region ?_
 refine WO.v (R.move rfl) rfl ?_
 refine WO.v (R.move rfl) rfl ?_
 refine WO.v (R.bU rfl rfl Tryz.underlying22 b_ rfl (by omega)) rfl ?_
 refine WO.nil ?_
 refine WX.next ?_
 refine WC.seq ?_
 refine WC.region ?_
 refine WO.v (R.move rfl) rfl ?_
 refine WO.v (R.len rfl Tryz.underlying22) rfl ?_
 refine WO.v (R.assign rfl) rfl ?_
 refine WO.nil ?_
 refine WX.next ?_
 refine WC.seq ?_
 refine WC.seq ?_
 refine WC.region ?_
 refine WO.v (R.move rfl) rfl ?_
 refine WO.v (R.eql rfl rfl) rfl ?_
 refine WO.nil ?_
 refine WX.next ?_
 refine WC.cond rfl (fun q=>absurd (of_decide_eq_true q) (by omega)) (fun _=>?_)
 refine WC.skip ?_
 refine WX.next ?_
 refine WC.seq ?_
 refine WC.region ?_
 refine WO.v (R.move rfl) rfl ?_
 refine WO.v (R.len rfl Tryz.underlying22) rfl ?_
 refine WO.v (R.assign rfl) rfl ?_
 refine WO.nil ?_
 refine WX.next ?_
 refine WC.seq ?_
 refine WC.seq ?_
 refine WC.region ?_
 refine WO.v (R.move rfl) rfl ?_
 refine WO.v (R.move rfl) rfl ?_
 refine WO.v (R.eql rfl rfl) rfl ?_
 refine WO.nil ?_
 refine WX.next ?_
 refine WC.cond rfl (fun q=>absurd (of_decide_eq_true q) (by omega)) (fun _=>?_)
 refine WC.skip ?_
 refine WX.next ?_
 refine WC.seq ?_
 refine WC.seq ?_
 refine WC.region ?_
 refine WO.v (R.move rfl) rfl ?_
 refine WO.v (R.move rfl) rfl ?_
 refine WO.v (R.iI rfl rfl (by omega)) rfl ?_
 refine WO.v (R.move rfl) rfl ?_
 refine WO.v (R.BK rfl Tryz.underlying22) rfl ?_
 refine WO.v (R.gtr rfl rfl) rfl ?_
 refine WO.nil ?_
 refine WX.next ?_
 refine WC.cond rfl (fun _=>?_) (fun q=>absurd (by omega) (of_decide_eq_false q))
 refine WC.seq ?_
 refine WC.region ?_
 refine WO.v (R.move rfl) rfl ?_
 refine WO.v (R.move rfl) rfl ?_
 refine WO.v (R.jR rfl rfl Tryz.underlying22 b_ (di (i:=0) (by omega)) (by omega)) rfl ?_
 refine WO.v (R.move rfl) rfl ?_
 refine WO.v (R.move rfl) rfl ?_
 refine WO.v (R.iI rfl rfl (by omega)) rfl ?_
 refine WO.v (R.move rfl) rfl ?_
 refine WO.v (R.Gn rfl rfl (by omega) (by omega)) rfl ?_
 refine WO.v (happ _ _ _ _ rfl rfl) rfl ?_
 refine WO.v (R.assign rfl) rfl ?_
 refine WO.nil ?_
 refine WX.next ?_
 refine WC.seq ?_
 refine WC.region ?_
 refine WO.v (R.move rfl) rfl ?_
 refine WO.v (R.move rfl) rfl ?_
 refine WO.v (R.bU rfl rfl Tryz.underlying22 b_ (di (by omega)) (by omega)) rfl ?_
 refine WO.v (R.move rfl) rfl ?_
 refine WO.v (R.jY rfl rfl Tryz.underlying22 b_ hrow hn1 hv (by omega) h1v) rfl ?_
 refine WO.nil ?_
 refine WX.next ?_
 refine WC.seq ?_
 refine WC.mV fG [.ex [] (.slice (some ⟨b,0,none⟩) (n+1) G),.ex [] (.int .i64 ((i:Nat):Int)),.ex [] (.int .i64 ((1:Nat):Int)),.ex [1,2] (.int .i64 ((i+1:Nat):Int)),.ex [0,3] (.slice (some ⟨b,(i+1)*4,none⟩) (n+1 - (i+1)) (G - (i+1))),.ex [] (.slice (some ⟨g,0,none⟩) n c),.ex [] (.int .i64 ((i:Nat):Int)),.ex [5,6] (.slice (some ⟨g,i*4,none⟩) (n - i) (c - i))] 8 (by kernel_rfl) ⟨fun _ _ _ h _=>h,fun _ _ _ h _=>h,fun _ _ _ h _=>h,fun _ _ _ h _=>h,fun _ _ _ h _=>h,fun _ _ _ h _=>h,fun _ _ _ h _=>h,fun _ _ _ h _=>h,trivial⟩ ⟨?_,?_,?_,?_,?_,?_,?_,?_,trivial⟩ ?_
 ·rintro vs wd kd ⟨-⟩
  refine WO.bp (fr':=[(9,.slice (some ⟨b,0,none⟩) (n+1) G)]) ⟨⟨_,rfl,rfl⟩,trivial⟩ ?_
  refine WO.v (R.move rfl) rfl ?_
  refine WO.nil ?_
  exact WX.aI rfl rfl (Kp.refl _)
 ·rintro vs wd kd ⟨-⟩
  refine WO.bp (fr':=[(1,.int .i64 ((i:Nat):Int))]) ⟨⟨_,rfl,rfl⟩,trivial⟩ ?_
  refine WO.v (R.move rfl) rfl ?_
  refine WO.nil ?_
  exact WX.aI rfl rfl (Kp.refl _)
 ·rintro vs wd kd ⟨-⟩
  refine WO.bp (fr':=[(7,.int .i64 ((1:Nat):Int))]) ⟨⟨_,rfl,rfl⟩,trivial⟩ ?_
  refine WO.v (R.move rfl) rfl ?_
  refine WO.nil ?_
  exact WX.aI rfl rfl (Kp.refl _)
 ·rintro vs wd kd ⟨e1,e2,-⟩
  refine WO.bp (fr':=[(47,.int .i64 ((i:Nat):Int)),(48,.int .i64 ((1:Nat):Int))]) ⟨⟨_,rfl,e1⟩,⟨_,rfl,e2⟩,trivial⟩ ?_
  refine WO.v (R.iI rfl rfl (by omega)) rfl ?_
  refine WO.nil ?_
  exact WX.aI rfl rfl (Kp.refl _)
 ·rintro vs wd kd ⟨e0,e3,-⟩
  refine WO.bp (fr':=[(46,.slice (some ⟨b,0,none⟩) (n+1) G),(49,.int .i64 ((i+1:Nat):Int))]) ⟨⟨_,rfl,e0⟩,⟨_,rfl,e3⟩,trivial⟩ ?_
  refine WO.v (R.bU rfl rfl Tryz.underlying22 b_ (di (by omega)) (by omega)) rfl ?_
  refine WO.nil ?_
  exact WX.aI rfl rfl (Kp.refl _)
 ·rintro vs wd kd ⟨-⟩
  refine WO.bp (fr':=[(0,.slice (some ⟨g,0,none⟩) n c)]) ⟨⟨_,rfl,rfl⟩,trivial⟩ ?_
  refine WO.v (R.move rfl) rfl ?_
  refine WO.nil ?_
  exact WX.aI rfl rfl (Kp.refl _)
 ·rintro vs wd kd ⟨-⟩
  refine WO.bp (fr':=[(1,.int .i64 ((i:Nat):Int))]) ⟨⟨_,rfl,rfl⟩,trivial⟩ ?_
  refine WO.v (R.move rfl) rfl ?_
  refine WO.nil ?_
  exact WX.aI rfl rfl (Kp.refl _)
 ·rintro vs wd kd ⟨e5,e6,-⟩
  refine WO.bp (fr':=[(51,.slice (some ⟨g,0,none⟩) n c),(52,.int .i64 ((i:Nat):Int))]) ⟨⟨_,rfl,e5⟩,⟨_,rfl,e6⟩,trivial⟩ ?_
  refine WO.v (R.bU rfl rfl Tryz.underlying22 b_ (di (by omega)) (by omega)) rfl ?_
  refine WO.nil ?_
  exact WX.aI rfl rfl (Kp.refl _)
 rintro vsx w1 k1 ⟨-,-,-,-,e4,-,-,e7,-⟩
 replace k1:Kp [] (W1.setRow b (cur.take (i*4)++vs++cur.drop (i*4+vs.length)).toArray) w1:=k1
 refine WO.bp (fr':=[(50,.slice (some ⟨b,(i+1)*4,none⟩) (n+1 - (i+1)) (G - (i+1))),(53,.slice (some ⟨g,i*4,none⟩) (n - i) (c - i)),(9,.slice (some ⟨b,0,none⟩) (n+1) G)]) ⟨⟨_,rfl,e4⟩,⟨_,rfl,e7⟩,⟨_,rfl,rfl⟩,trivial⟩ ?_
 have hb2:w1.heap[b]? = some (.cells (List.toArray (cur.take (i*4)++vs++cur.drop (i*4+vs.length))) 44 (0,0)):=by rw [k1.block b (by simpa using aZ hrow) (by simp)]; exact setRow_heap W1 b _ _ 44 _ hrow
 have hd2:CellsAt w1 ⟨g,i*4,none⟩ ds:=(hd.kp (Kp.setRow W1 b _) hgl (by simpa using hgb.symm)).kp k1 (by simpa using hgl) (by simp)
 refine WO.v (R.jY rfl rfl Tryz.underlying22 b_ hb2 hn2 hd2 (by simp only [List.length_append,List.length_take,List.length_drop]; omega) h1d) rfl ?_
 refine WO.nil ?_
 refine WX.next ?_
 refine WC.seq ?_
 refine WC.region ?_
 refine WO.v (R.move rfl) rfl ?_
 refine WO.v (R.assign rfl) rfl ?_
 refine WO.nil ?_
 refine WX.next ?_
 refine WC.ret ?_
 refine WX.ga ?_
 refine WX.sd rfl rfl ?_
 exact ⟨rfl,w1,k1,rfl⟩
set_option maxRecDepth 100000 in
set_option maxHeartbeats 1000000 in
theorem mQ {w:World} {g n i c vc:Nat} {ad:Addr} {cur vs ds:List Value} {curA:Array Value} {tA:TypeId} {fA:Nat × Nat} (hi:i<n) (hc:n+1<=c) (hcm:c<=maxLen)
  (hrow:w.heap[g]? = some (.cells cur.toArray 44 (0,0))) (hcur:(n+1)*4<=cur.length) (hv:CellsAt w ad vs) (hvb:w.heap[ad.block]? = some (.cells curA tA fA)) (hvb0:curA.size≠0) (hne:ad.block≠g) (hvl:vs.length=4) (hd:CellsAt w ⟨g,i*4,none⟩ ds) (hdl:ds.length=(n - i)*4)
  (h1v:∀ u ∈ vs,u.oneCell' = true) (h1d:∀ u ∈ ds,u.oneCell' = true) :
  gy Tryz.prog 36 [.slice (some ⟨g,0,none⟩) n c,.int .i64 (i:Int),.slice (some ad) 1 vc].toArray w fun v w'=>v = .slice (some ⟨g,0,none⟩) (n+1) c/\∃ w1,Kp [] w w1/\w' = (w1.setRow g (cur.take ((i+1)*4)++ds++cur.drop ((i+1)*4+ds.length)).toArray).setRow g ((cur.take ((i+1)*4)++ds++cur.drop ((i+1)*4+ds.length)).take (i*4)++vs++(cur.take ((i+1)*4)++ds++cur.drop ((i+1)*4+ds.length)).drop (i*4+vs.length)).toArray:=by
 have hcm:c<=9223372036854775807:=hcm
 have hn1:vs.length=Nat.min 1 (n+1 - i)*4:=by rw [show Nat.min 1 (n+1 - i)=1 from Nat.min_eq_left (by omega),Nat.one_mul]; exact hvl
 have hn2:ds.length=Nat.min (n+1 - i) (n+1 - (i+1))*4:=by rw [show Nat.min (n+1 - i) (n+1 - (i+1))=n+1 - (i+1) from Nat.min_eq_right (by omega),hdl]; congr 1; omega
 refine gy.enter Tryz.func36 rfl rfl rfl rfl ?_
 refine WC.seq ?_
 refine WC.region ?_
 refine WO.v (R.assign rfl) rfl ?_
 refine WO.nil ?_
 refine WX.next ?_
 refine WC.seq ?_
 refine WC.region ?_
 refine WO.v (R.move rfl) rfl ?_
 refine WO.v (R.move rfl) rfl ?_
 refine WO.v (R.bU rfl rfl Tryz.underlying22 b_ rfl (by omega)) rfl ?_
 refine WO.nil ?_
 refine WX.next ?_
 refine WC.seq ?_
 refine WC.region ?_
 refine WO.v (R.move rfl) rfl ?_
 refine WO.v (R.len rfl Tryz.underlying22) rfl ?_
 refine WO.v (R.assign rfl) rfl ?_
 refine WO.nil ?_
 refine WX.next ?_
 refine WC.seq ?_
 refine WC.seq ?_
 refine WC.region ?_
 refine WO.v (R.move rfl) rfl ?_
 refine WO.v (R.eql rfl rfl) rfl ?_
 refine WO.nil ?_
 refine WX.next ?_
 refine WC.cond rfl (fun q=>absurd (of_decide_eq_true q) (by omega)) (fun _=>?_)
 refine WC.skip ?_
 refine WX.next ?_
 refine WC.seq ?_
 refine WC.region ?_
 refine WO.v (R.move rfl) rfl ?_
 refine WO.v (R.len rfl Tryz.underlying22) rfl ?_
 refine WO.v (R.assign rfl) rfl ?_
 refine WO.nil ?_
 refine WX.next ?_
 refine WC.seq ?_
 refine WC.seq ?_
 refine WC.region ?_
 refine WO.v (R.move rfl) rfl ?_
 refine WO.v (R.move rfl) rfl ?_
 refine WO.v (R.eql rfl rfl) rfl ?_
 refine WO.nil ?_
 refine WX.next ?_
 refine WC.cond rfl (fun q=>absurd (of_decide_eq_true q) (by omega)) (fun _=>?_)
 refine WC.skip ?_
 refine WX.next ?_
 refine WC.seq ?_
 refine WC.seq ?_
 refine WC.region ?_
 refine WO.v (R.move rfl) rfl ?_
 refine WO.v (R.move rfl) rfl ?_
 refine WO.v (R.iI rfl rfl (by omega)) rfl ?_
 refine WO.v (R.move rfl) rfl ?_
 refine WO.v (R.BK rfl Tryz.underlying22) rfl ?_
 refine WO.v (R.gtr rfl rfl) rfl ?_
 refine WO.nil ?_
 refine WX.next ?_
 refine WC.cond rfl (fun q=>absurd (of_decide_eq_true q) (by omega)) (fun _=>?_)
 refine WC.skip ?_
 refine WX.next ?_
 refine WC.seq ?_
 refine WC.region ?_
 refine WO.v (R.move rfl) rfl ?_
 refine WO.v (R.move rfl) rfl ?_
 refine WO.v (R.move rfl) rfl ?_
 refine WO.v (R.iI rfl rfl (by omega)) rfl ?_
 refine WO.v (R.jR rfl rfl Tryz.underlying22 b_ (di (i:=0) (by omega)) (by omega)) rfl ?_
 refine WO.v (R.assign rfl) rfl ?_
 refine WO.nil ?_
 refine WX.next ?_
 refine WC.seq ?_
 refine WC.seq ?_
 refine WC.region ?_
 refine WO.v (R.move rfl) rfl ?_
 refine WO.v (R.move rfl) rfl ?_
 refine WO.v (R.move rfl) rfl ?_
 refine WO.v (R.move rfl) rfl ?_
 refine WO.v (R.iI rfl rfl (by omega)) rfl ?_
 refine WO.v (R.bU rfl rfl Tryz.underlying22 b_ (di (by omega)) (by omega)) rfl ?_
 refine WO.v (R.Iw (tS:=22) (tR:=4) Tryz.func87 rfl rfl (by kernel_rfl) (by kernel_rfl) Tryz.underlying22 b_ hne hvb hvb0 hrow rfl rfl) rfl ?_
 refine WO.v (R.not rfl) rfl ?_
 refine WO.nil ?_
 refine WX.next ?_
 refine WC.yv rfl ?_
 refine WC.seq ?_
 refine WC.mV fG [.ex [] (.slice (some ⟨g,0,none⟩) (n+1) c),.ex [] (.int .i64 ((i:Nat):Int)),.ex [] (.int .i64 ((1:Nat):Int)),.ex [1,2] (.int .i64 ((i+1:Nat):Int)),.ex [0,3] (.slice (some ⟨g,(i+1)*4,none⟩) (n+1 - (i+1)) (c - (i+1))),.ex [] (.slice (some ⟨g,0,none⟩) (n+1) c),.ex [] (.int .i64 ((i:Nat):Int)),.ex [5,6] (.slice (some ⟨g,i*4,none⟩) (n+1 - i) (c - i))] 8 (by kernel_rfl) ⟨fun _ _ _ h _=>h,fun _ _ _ h _=>h,fun _ _ _ h _=>h,fun _ _ _ h _=>h,fun _ _ _ h _=>h,fun _ _ _ h _=>h,fun _ _ _ h _=>h,fun _ _ _ h _=>h,trivial⟩ ⟨?_,?_,?_,?_,?_,?_,?_,?_,trivial⟩ ?_
 ·rintro vs wd kd ⟨-⟩
  refine WO.bp (fr':=[(0,.slice (some ⟨g,0,none⟩) (n+1) c)]) ⟨⟨_,rfl,rfl⟩,trivial⟩ ?_
  refine WO.v (R.move rfl) rfl ?_
  refine WO.nil ?_
  exact WX.aI rfl rfl (Kp.refl _)
 ·rintro vs wd kd ⟨-⟩
  refine WO.bp (fr':=[(1,.int .i64 ((i:Nat):Int))]) ⟨⟨_,rfl,rfl⟩,trivial⟩ ?_
  refine WO.v (R.move rfl) rfl ?_
  refine WO.nil ?_
  exact WX.aI rfl rfl (Kp.refl _)
 ·rintro vs wd kd ⟨-⟩
  refine WO.bp (fr':=[(7,.int .i64 ((1:Nat):Int))]) ⟨⟨_,rfl,rfl⟩,trivial⟩ ?_
  refine WO.v (R.move rfl) rfl ?_
  refine WO.nil ?_
  exact WX.aI rfl rfl (Kp.refl _)
 ·rintro vs wd kd ⟨e1,e2,-⟩
  refine WO.bp (fr':=[(70,.int .i64 ((i:Nat):Int)),(71,.int .i64 ((1:Nat):Int))]) ⟨⟨_,rfl,e1⟩,⟨_,rfl,e2⟩,trivial⟩ ?_
  refine WO.v (R.iI rfl rfl (by omega)) rfl ?_
  refine WO.nil ?_
  exact WX.aI rfl rfl (Kp.refl _)
 ·rintro vs wd kd ⟨e0,e3,-⟩
  refine WO.bp (fr':=[(69,.slice (some ⟨g,0,none⟩) (n+1) c),(72,.int .i64 ((i+1:Nat):Int))]) ⟨⟨_,rfl,e0⟩,⟨_,rfl,e3⟩,trivial⟩ ?_
  refine WO.v (R.bU rfl rfl Tryz.underlying22 b_ (di (by omega)) (by omega)) rfl ?_
  refine WO.nil ?_
  exact WX.aI rfl rfl (Kp.refl _)
 ·rintro vs wd kd ⟨-⟩
  refine WO.bp (fr':=[(0,.slice (some ⟨g,0,none⟩) (n+1) c)]) ⟨⟨_,rfl,rfl⟩,trivial⟩ ?_
  refine WO.v (R.move rfl) rfl ?_
  refine WO.nil ?_
  exact WX.aI rfl rfl (Kp.refl _)
 ·rintro vs wd kd ⟨-⟩
  refine WO.bp (fr':=[(1,.int .i64 ((i:Nat):Int))]) ⟨⟨_,rfl,rfl⟩,trivial⟩ ?_
  refine WO.v (R.move rfl) rfl ?_
  refine WO.nil ?_
  exact WX.aI rfl rfl (Kp.refl _)
 ·rintro vs wd kd ⟨e5,e6,-⟩
  refine WO.bp (fr':=[(74,.slice (some ⟨g,0,none⟩) (n+1) c),(75,.int .i64 ((i:Nat):Int))]) ⟨⟨_,rfl,e5⟩,⟨_,rfl,e6⟩,trivial⟩ ?_
  refine WO.v (R.bU rfl rfl Tryz.underlying22 b_ (di (by omega)) (by omega)) rfl ?_
  refine WO.nil ?_
  exact WX.aI rfl rfl (Kp.refl _)
 rintro vsx w1 k1 ⟨-,-,-,-,e4,-,-,e7,-⟩
 replace k1:Kp [] w w1:=k1
 refine WO.bp (fr':=[(73,.slice (some ⟨g,(i+1)*4,none⟩) (n+1 - (i+1)) (c - (i+1))),(76,.slice (some ⟨g,i*4,none⟩) (n+1 - i) (c - i)),(0,.slice (some ⟨g,0,none⟩) (n+1) c),(1,.int .i64 ((i:Nat):Int)),(2,.slice (some ad) 1 vc)]) ⟨⟨_,rfl,e4⟩,⟨_,rfl,e7⟩,⟨_,rfl,rfl⟩,⟨_,rfl,rfl⟩,⟨_,rfl,rfl⟩,trivial⟩ ?_
 have hg1:w1.heap[g]? = some (.cells (List.toArray cur) 44 (0,0)):=by rw [k1.block g (aZ hrow) (by simp)]; exact hrow
 refine WO.v (R.jY rfl rfl Tryz.underlying22 b_ hg1 hn2 (hd.kp k1 (aZ hrow) (by simp)) (by omega) h1d) rfl ?_
 refine WO.nil ?_
 refine WX.next ?_
 have hg2:(w1.setRow g (cur.take ((i+1)*4)++ds++cur.drop ((i+1)*4+ds.length)).toArray).heap[g]? = some (.cells (List.toArray (cur.take ((i+1)*4)++ds++cur.drop ((i+1)*4+ds.length))) 44 (0,0)):=setRow_heap w1 g _ _ 44 _ hg1
 have hv2:CellsAt (w1.setRow g (cur.take ((i+1)*4)++ds++cur.drop ((i+1)*4+ds.length)).toArray) ad vs:=(hv.kp k1 (aZ hvb) (by simp)).kp (Kp.setRow w1 g _) (Nat.lt_of_lt_of_le (aZ hvb) k1.size) (by simpa using fun h=>hne h.symm)
 refine WC.seq ?_
 refine WC.region ?_
 refine WO.v (R.move rfl) rfl ?_
 refine WO.v (R.move rfl) rfl ?_
 refine WO.v (R.bU rfl rfl Tryz.underlying22 b_ (di (by omega)) (by omega)) rfl ?_
 refine WO.v (R.move rfl) rfl ?_
 refine WO.v (R.jY rfl rfl Tryz.underlying22 b_ hg2 hn1 hv2 (by simp only [List.length_append,List.length_take,List.length_drop]; omega) h1v) rfl ?_
 refine WO.nil ?_
 refine WX.next ?_
 refine WC.seq ?_
 refine WC.region ?_
 refine WO.v (R.move rfl) rfl ?_
 refine WO.v (R.assign rfl) rfl ?_
 refine WO.nil ?_
 refine WX.next ?_
 refine WC.ret ?_
 refine WX.ga ?_
 refine WX.sd rfl rfl ?_
 exact ⟨rfl,w1,k1,rfl⟩
theorem qy {G:Gl} {ρ:List RE} {H:AH} {w:World} (hs:G.shp=aq aF) (hR:Rep G ρ H w) {l m:List (den (.nm .sess))} (hH:getO H 0 = .row 44 (.nm .sess) l) (hl:l.length<1048576) {i:Nat} (hi:i<=l.length) {v0:Value} (h0:Rd (cx G ρ w) ρ (.own 0) v0)
  {ad:Addr} {k:Nat} {cys:List Value} {bAV:AV} (hm:m.length=1) (hb:Rd (cx G ρ w) ρ bAV (.slice (some ad) 1 k)) (hbv:(bAV.vw H).eU (.nm .sess)=some m) (hv:CellsAt w ad cys) (hvl:cys.length=4) (h1v:∀ u ∈ cys,u.oneCell' = true) (hp:Pds (cx G ρ w) (m.flatMap (cellsOf (.nm .sess))) cys)
  (hne:∀ g c n z,ρ[0]? = some (.row g c n z)->ad.block≠g) {curA:Array Value} {tA:TypeId} {fA:Nat × Nat} (hvb:w.heap[ad.block]? = some (.cells curA tA fA)) (hvb0:curA.size≠0) :
  gy Tryz.prog 36 [v0,.int .i64 (i:Int),.slice (some ad) 1 k].toArray w fun v w'=>∃ ρ',Stp (vu 0) ρ w ρ' w' /\ Rep G ρ' ((ep (AV.kill 0) H).set 0 (.row 44 (.nm .sess) (l.take i++m++l.drop i))) w' /\ Rd (cx G ρ' w') ρ' (.own 0) v:=by
 have hT:bk Tryz.prog G.shp aF:=hs ▸ fF
 obtain ⟨hshp,hlen⟩:=cO hR hH
 have hl64:l.length<=9223372036854775807:=by omega
 have hin:((l.length:Nat):Int)<=9223372036854775807:=by omega
 by_cases hie:i=l.length
 ·subst hie
  have hc:∃ A c,v0 = .slice A l.length c:=by
   rcases h0 with ⟨g,cap,len,z,h1,rfl⟩ | ⟨h1,a,rfl⟩
   ·rcases bn hR hH with ⟨h2,_⟩ | ⟨g',cap',cells,sp,h2,_⟩
    ·rw [h1] at h2; cases h2
    ·rw [h1] at h2; cases h2; exact ⟨_,_,rfl⟩
   ·rcases bn hR hH with ⟨_,h2⟩ | ⟨g',cap',cells,sp,h2,_⟩
    ·subst h2; exact ⟨_,_,rfl⟩
    ·rw [h1] at h2; cases h2
  obtain ⟨A,c,rfl⟩:=hc
  refine qc fun F x y ty hx hy=>?_
  have happ:fl aF (vu 0) ([]:AFr) H 22 (.own 0) bAV=some ⟨one (.own 0),[],(ep (AV.kill 0) H).set 0 (.row 44 (.nm .sess) (l++m)),[(l.length+m.length)*(Sh.nm NT.sess).bytes<=140737488355328],[]⟩:=by
   unfold fl
   rw [show bm aF 22=some ⟨.sl 44 (some (.nm .sess)),1,[.em true]⟩ from by kernel_rfl]
   simp only [hbv,hH]
   rfl
  obtain ⟨v,w',h1,ρ',h2,h3,_,h5,_⟩:=ff (P:=Tryz.prog) (n:=95) (F:=[]) (ty:=ty) (fr:=[]) (x:=.const (.slice A l.length c)) (y:=.const (.slice (some ad) 1 k)) hT hR .nil happ (by
   intro p hp
   rw [List.mem_singleton] at hp; subst hp
   show (l.length+m.length)*32<=_
   omega) h0 hb rfl rfl
  refine ⟨v,w',R.tP h1 hx hy,ρ',h2,?_,h5⟩
  rw [List.take_length,List.drop_length,List.append_nil]
  exact h3
 ·have hlt:i<l.length:=by omega
  rcases bn hR hH with ⟨_,h2⟩ | ⟨g,cap,cells,sp,hρ,hg,hpd,hsz,hcap,hmax⟩
  ·subst h2; simp at hlt
  obtain ⟨hnb,hil,hiH⟩:=jQ hR hH
  have hv0:v0 = .slice (some ⟨g,0,none⟩) l.length cap:=by
   rcases h0 with ⟨g',cap',len,z,h1,rfl⟩ | ⟨h1,a,rfl⟩
   ·rw [hρ] at h1; cases h1; rfl
   ·rw [hρ] at h1; cases h1
  subst hv0
  have hz:(Sh.nm NT.sess).size=4:=rfl
  have hby:(Sh.nm NT.sess).bytes=32:=rfl
  have hcl:cells.length=l.length*4:=by rw [<- hpd.length,bD,hz]
  rw [hz,List.length_append] at hsz
  have hone:∀ u ∈ cells.drop (i*4),u.oneCell' = true:=fun u hu=>hpd.zQ u (List.mem_of_mem_drop hu)
  have hd:CellsAt w ⟨g,i*4,none⟩ (cells.drop (i*4)):=by
   have:=(bP hg).shift (i*4)
   rwa [add_lit,Nat.zero_add] at this
  have hdl:(cells.drop (i*4)).length=(l.length - i)*4:=by rw [List.length_drop,hcl]; omega
  have hgl:=aZ hg
  have hzl:(l.take i++m++l.drop i).length=l.length+1:=by
   rw [List.length_append,List.length_append,List.length_take,List.length_drop,hm]; omega
  have hnew:∀ {c:Cx},(cx G ρ w).le c->Pds c ((l.take i++m++l.drop i).flatMap (cellsOf (.nm .sess))) (cells.take (i*4)++cys++cells.drop (i*4)):=fun {c} hle=>by
   rw [List.flatMap_append,List.flatMap_append]
   exact (((bA hpd i).append hp).append (bG hpd i)).carry hle
  have hnl:(cells.take (i*4)++cys++cells.drop (i*4)).length=(l.length+1)*4:=by
   rw [List.length_append,List.length_append,List.length_take,List.length_drop,hcl,hvl]; omega
  have hbig:(l.take i++m++l.drop i).length*(Sh.nm NT.sess).bytes<=140737488355328:=by rw [hzl,hby]; omega
  -- what is shown of any way
  have fin:∀ (S:List Nat) (g2 cap2:Nat) (sp2:List Value) (w':World),Kp S w w' -> (∀ b ∈ S,b=g)->(g2=g\/w.heap.size<=g2)->w'.heap[g2]? = some (.cells (List.toArray (cells.take (i*4)++cys++cells.drop (i*4)++sp2)) 44 (0,0))->(l.length+1)*4+sp2.length=cap2*4->l.length+1<=cap2->cap2<=maxLen ->
    ∃ ρ',Stp (vu 0) ρ w ρ' w' /\ Rep G ρ' ((ep (AV.kill 0) H).set 0 (.row 44 (.nm .sess) (l.take i++m++l.drop i))) w' /\ Rd (cx G ρ' w') ρ' (.own 0) (.slice (some ⟨g2,0,none⟩) (l.length+1) cap2):=by
   intro S g2 cap2 sp2 w' hk hS hg2 hh hlen2 hle2 hmax2
   obtain ⟨k1,k2,_⟩:=iN (ro:=vu 0) (s':=.nm .sess) (e':=44) (zs:=l.take i++m++l.drop i) hR hH ⟨rfl,rfl⟩ hk (fun b hb=>⟨_,hρ,by rw [hS b hb]; rfl⟩) (r':=.row g2 cap2 (l.take i++m++l.drop i).length (Sh.nm NT.sess).size) (fun b hb=>by
    cases hb
    rcases hg2 with rfl | hg2
    ·exact .inl ⟨_,hρ,rfl⟩
    ·exact .inr ⟨hg2,aZ hh⟩) (fun hle=>⟨hshp,hbig,.inr ⟨g2,cap2,_,sp2,rfl,hh,hnew hle,by rw [List.length_append,hnl,hz]; exact hlen2,by rw [hzl]; exact hle2,hmax2⟩⟩)
   exact ⟨_,k1,k2,.inl ⟨g2,cap2,_,_,List.getElem?_set_self hil,by rw [hzl]⟩⟩
  have eo:(i+1)*4=i*4+4:=by omega
  by_cases hroom:l.length+1<=cap
  ·refine (mQ hlt hroom hmax hg (by rw [List.length_append]; omega) hv hvb hvb0 (hne _ _ _ _ hρ) hvl hd hdl h1v hone).mono fun v w' ⟨e1,w1,k1,e2⟩=>?_
   subst e1; subst e2
   rw [eo,CS (by omega) hvl]
   have hk:Kp [g] w ((w1.setRow g ((cells++sp).take (i*4+4)++cells.drop (i*4)++(cells++sp).drop (i*4+4+(cells.drop (i*4)).length)).toArray).setRow g (cells.take (i*4)++cys++cells.drop (i*4)++sp.drop 4).toArray):=((k1.sub (by simp)).step (Kp.setRow w1 g _) (by simp)).step (Kp.setRow _ g _) (by simp)
   have hg1:w1.heap[g]? = some (.cells (List.toArray (cells++sp)) 44 (0,0)):=by rw [k1.block g hgl (by simp)]; exact hg
   exact fin [g] g cap (sp.drop 4) _ hk (by simp) (.inl rfl) (setRow_heap _ g _ _ 44 _ (setRow_heap w1 g _ _ 44 _ hg1)) (by rw [List.length_drop]; omega) hroom hmax
  ·obtain ⟨ti,hi0,hz0,hz1,hz2⟩:=info_parts xN
   have eik:i+(l.length+1 - i)=l.length+1:=by omega
   have hge:=grownCap_ge w (l.length+1) cap 44
   have hgm:=grownCap_le_maxLen w (l.length+1) cap 44 (by simp [maxLen]; omega)
   have hold:(Builtin.firstCells ti.size i (.slice (some ⟨g,0*4,none⟩) i cap)).run Tryz.prog w.drew = .ok (cells.take (i*4)).toArray w.drew:=by
    have h:=run_loadCells_list (P:=Tryz.prog) w.drew ⟨g,0*4,none⟩ (cells.take (i*4)) (by rw [Nat.zero_mul]; exact (bP hg).take _)
    rw [List.length_take,Nat.min_eq_left (by omega)] at h
    rw [hz1]; exact h
   have happ:∀ (F:Fr) (x y:Operand) (ty:TypeId),ev F x=some (.slice (some ⟨g,0*4,none⟩) i cap)->ev F y=some (.int .i64 ((l.length+1 - i:Nat):Int))->aK Tryz.prog 95 F w (.call { callee:=.builtin .append,args:=#[x,y],argTypes:=#[22,3] }) ty (.slice (some ⟨w.heap.size,0,none⟩) (l.length+1) (grownCap w (l.length+1) cap 44)) (w.drew.alloc (.cells (List.toArray (cells.take (i*4)++((Builtin.zeroCells (Value.agg #[.int .i64 0,.int .i64 0,.int .i64 0,.int .i64 0]).cells (l.length+1 - i)).toList++(Builtin.zeroCells (Value.agg #[.int .i64 0,.int .i64 0,.int .i64 0,.int .i64 0]).cells (grownCap w (l.length+1) cap 44 - (l.length+1))).toList))) 44)):=fun F x y ty hx hy=>by
    have h:=R.Gr (P:=Tryz.prog) (n:=95) (ty:=ty) hx hy Tryz.underlying22 Tryz.underlying3 hi0 hz0 hold (by omega) (by rw [hz1]; decide) (by omega) (by omega) (by rw [hz2]; omega) (by rw [hz2,eik]; exact growslice_fits (by omega) (by omega))
    rw [eik] at h
    have e:∀ (a:List Value) (b c:Array Value),a.toArray++b++c=(a++(b.toList++c.toList)).toArray:=fun a b c=>by apply Array.ext'; simp
    rw [e] at h
    exact h
   have hcurl:(cells.take (i*4)++((Builtin.zeroCells (Value.agg #[.int .i64 0,.int .i64 0,.int .i64 0,.int .i64 0]).cells (l.length+1 - i)).toList++(Builtin.zeroCells (Value.agg #[.int .i64 0,.int .i64 0,.int .i64 0,.int .i64 0]).cells (grownCap w (l.length+1) cap 44 - (l.length+1))).toList)).length=grownCap w (l.length+1) cap 44*4:=by
    rw [List.length_append,List.length_append,List.length_take,mw,mw]
    show min _ _+((l.length+1 - i)*4+(grownCap w (l.length+1) cap 44 - (l.length+1))*4)=_
    omega
   have htk:(cells.take (i*4)++((Builtin.zeroCells (Value.agg #[.int .i64 0,.int .i64 0,.int .i64 0,.int .i64 0]).cells (l.length+1 - i)).toList++(Builtin.zeroCells (Value.agg #[.int .i64 0,.int .i64 0,.int .i64 0,.int .i64 0]).cells (grownCap w (l.length+1) cap 44 - (l.length+1))).toList)).take (i*4)=cells.take (i*4):=List.take_left' (by rw [List.length_take]; omega)
   generalize grownCap w (l.length+1) cap 44=GC at *
   generalize cells.take (i*4)++((Builtin.zeroCells (Value.agg #[.int .i64 0,.int .i64 0,.int .i64 0,.int .i64 0]).cells (l.length+1 - i)).toList++(Builtin.zeroCells (Value.agg #[.int .i64 0,.int .i64 0,.int .i64 0,.int .i64 0]).cells (GC - (l.length+1))).toList)=cur at *
   have hK1:Kp [] w (w.drew.alloc (.cells (List.toArray cur) 44)):=((Kp.refl w).drew).step (Kp.alloc w.drew _) (by simp)
   have hrow:(w.drew.alloc (.cells (List.toArray cur) 44)).heap[w.heap.size]? = some (.cells (List.toArray cur) 44 (0,0)):=heap_alloc_new w.drew _
   generalize w.drew.alloc (.cells (List.toArray cur) 44)=W1 at *
   refine (oP hlt hcap (by omega) hmax hge hgm happ hrow (by omega) (hv.kp hK1 (aZ hvb) (by simp)) hvl (hd.kp hK1 hgl (by simp)) (by omega) (Nat.lt_of_lt_of_le hgl hK1.size) hdl h1v hone).mono fun v w' ⟨e1,w1,k1,e2⟩=>?_
   subst e1; subst e2
   rw [eo,Dm (cells:=cells) (by omega) hvl htk]
   have hs1:∀ b ∈ [w.heap.size],b ∈ ([]:List Nat)\/w.heap.size<=b:=fun b hb=>.inr (by rw [List.mem_singleton] at hb; omega)
   have hk:Kp [] w (w1.setRow w.heap.size (cells.take (i*4)++cys++cells.drop (i*4)++cur.drop (i*4+4+(cells.drop (i*4)).length)).toArray):=((hK1.step (Kp.setRow W1 w.heap.size _) hs1).step k1 (by simp)).step (Kp.setRow w1 w.heap.size _) hs1
   have hg1:=(k1.block w.heap.size (by simpa using aZ hrow) (by simp)).trans (setRow_heap W1 w.heap.size _ (cur.take (i*4)++cys++cur.drop (i*4+cys.length)).toArray 44 _ hrow)
   exact fin [] w.heap.size GC _ _ hk (by simp) (.inr (Nat.le_refl _)) (setRow_heap w1 w.heap.size _ _ 44 _ hg1) (by rw [List.length_drop]; omega) hge hgm
theorem nX (i:Int) (l m:List (den (.nm .sess))) (h:0<=i/\i<=(l.length:Int)) (hl:l.length<1048576) (hm:m.length=1):Sat Tryz.prog (aq aF) 36 [.c (.own 0),.c (.int i),.c (.own 1)] [.row 44 (.nm .sess) l,.row 44 (.nm .sess) m] ⟨[0<=i/\i<=(l.length:Int),l.length<1048576,m.length=1],[.c (.own 0)],some [.row 44 (.nm .sess) (l.take i.toNat++m++l.drop i.toNat),.row 44 (.nm .sess) m],false⟩:=by
 refine ⟨⟨_,Tryz.func36,by decide,rfl⟩,fun G ρ w vs hs hR hvs=>?_⟩
 obtain ⟨i,rfl⟩:=Int.eq_ofNat_of_zero_le h.1
 cases hvs with | cons h0 hvs=>
 cases hvs with | cons h1 hvs=>
 cases hvs with | cons h2 hvs=>
 cases hvs
 have h1:Pd (cx G ρ w) (.int (i:Int)) _:=h1
 cases h1
 have h0:Rd (cx G ρ w) ρ (.own 0) _:=h0
 have h2:Rd (cx G ρ w) ρ (.own 1) _:=h2
 have hH:getO [AO.row 44 (.nm .sess) l,.row 44 (.nm .sess) m] 0 = .row 44 (.nm .sess) l:=rfl
 have hbv:(AV.vw [AO.row 44 (.nm .sess) l,.row 44 (.nm .sess) m] (.own 1)).eU (.nm .sess)=some m:=by simp [AV.vw,AV.eU,getO]
 obtain ⟨A,k,cys,rfl,s1,s2,s3,s4⟩:=lz hR hbv h2
 rw [hm] at h2 s1 s3
 rw [hm]
 obtain ⟨ad,rfl,s5⟩:∃ ad,A=some ad/\CellsAt w ad cys:=s3.resolve_left (by decide)
 have hz:(Sh.nm NT.sess).size=4:=rfl
 rw [hz] at s1
 obtain ⟨u,hu⟩:∃ u,cys[0]? = some u:=⟨_,List.getElem?_eq_getElem (by omega)⟩
 obtain ⟨cur,t,f,hc,hc0⟩:=nn (s5 0 u hu)
 have hne:∀ g c n z,ρ[0]? = some (.row g c n z)->ad.block≠g:=fun g c n z hg e=>by
  rcases h2 with ⟨g',cap',len,z',h3,h4⟩ | ⟨h3,a,h4⟩
  ·cases h4
   have:=hR.inj 0 1 _ _ g hg h3 rfl (by rw [<- e]; rfl)
   omega
  ·cases h4
 rw [eJ] at hc
 refine (qy hs hR hH hl (by omega) h0 hm h2 hbv s5 s1 s2 s4 hne hc hc0).mono fun v w' ⟨ρ',k1,k2,k3⟩=>?_
 exact ⟨[v],rfl,ρ',k2,k1.ext,k1.bx,.cons k3 .nil,fun hb=>by cases hb⟩
theorem cf:(Tryz.prog.info? 77).map (·.size)=some 2:=by kernel_rfl
theorem uh:(Tryz.prog.info? 77).map (fun i=>(i.zero,i.size,i.bytes))=some (some (.agg #[.int .i64 0,.int .i64 0]),2,16):=by kernel_rfl
set_option maxRecDepth 100000 in
set_option maxHeartbeats 1000000 in
theorem sD {w:World} {n c vc:Nat} {A:Option Addr} {B:Option Addr} {φ:Value->World->Prop} (happ:∀ (F:Fr) (x y:Operand) (ty:TypeId),ev F x=some (.slice A n c)->ev F y=some (.slice B 1 vc)->∃ v2 w2,aK Tryz.prog 95 F w (.call { callee:=.builtin .append,args:=#[x,y],argTypes:=#[23,23] }) ty v2 w2/\φ v2 w2) :
  gy Tryz.prog 92 [.slice A n c,.int .i64 (n:Int),.slice B 1 vc].toArray w φ:=by
 refine gy.enter Tryz.func92 rfl rfl rfl rfl ?_
 refine WC.seq ?_
 refine WC.region ?_
 refine WO.v (R.assign rfl) rfl ?_
 refine WO.nil ?_
 refine WX.next ?_
 refine WC.seq ?_
 refine WC.region ?_
 refine WO.v (R.move rfl) rfl ?_
 refine WO.v (R.move rfl) rfl ?_
 refine WO.v (R.bU rfl rfl Tryz.underlying23 cf rfl (by omega)) rfl ?_
 refine WO.nil ?_
 refine WX.next ?_
 refine WC.seq ?_
 refine WC.region ?_
 refine WO.v (R.move rfl) rfl ?_
 refine WO.v (R.len rfl Tryz.underlying23) rfl ?_
 refine WO.v (R.assign rfl) rfl ?_
 refine WO.nil ?_
 refine WX.next ?_
 refine WC.seq ?_
 refine WC.seq ?_
 refine WC.region ?_
 refine WO.v (R.move rfl) rfl ?_
 refine WO.v (R.eql rfl rfl) rfl ?_
 refine WO.nil ?_
 refine WX.next ?_
 refine WC.cond rfl (fun q=>absurd (of_decide_eq_true q) (by omega)) (fun _=>?_)
 refine WC.skip ?_
 refine WX.next ?_
 refine WC.seq ?_
 refine WC.region ?_
 refine WO.v (R.move rfl) rfl ?_
 refine WO.v (R.len rfl Tryz.underlying23) rfl ?_
 refine WO.v (R.assign rfl) rfl ?_
 refine WO.nil ?_
 refine WX.next ?_
 refine WC.seq ?_
 refine WC.seq ?_
 refine WC.region ?_
 refine WO.v (R.move rfl) rfl ?_
 refine WO.v (R.move rfl) rfl ?_
 refine WO.v (R.eql rfl rfl) rfl ?_
 refine WO.nil ?_
 refine WX.next ?_
 refine WC.cond rfl (fun _=>?_) (fun q=>absurd rfl (of_decide_eq_false q))
 refine WC.seq ?_
 refine WC.region ?_
 refine WO.v (R.move rfl) rfl ?_
 refine WO.v (R.move rfl) rfl ?_
 refine WO.ve (happ _ _ _ _ rfl rfl) rfl fun v2 w2 hv2=>?_
 refine WO.v (R.assign rfl) rfl ?_
 refine WO.nil ?_
 refine WX.next ?_
 refine WC.ret ?_
 refine WX.ga ?_
 refine WX.sd rfl rfl ?_
 exact hv2
set_option maxRecDepth 100000 in
set_option maxHeartbeats 1000000 in
theorem qo {w W1:World} {g b n i c vc G:Nat} {ad:Addr} {cur vs ds:List Value} (hi:i<n) (hnc:n<=c) (hc:c<n+1) (hcm:c<=maxLen) (hG:n+1<=G) (hGm:G<=maxLen)
  (happ:∀ (F:Fr) (x y:Operand) (ty:TypeId),ev F x=some (.slice (some ⟨g,0*2,none⟩) i c)->ev F y=some (.int .i64 ((n+1 - i:Nat):Int))->aK Tryz.prog 95 F w (.call { callee:=.builtin .append,args:=#[x,y],argTypes:=#[23,3] }) ty (.slice (some ⟨b,0,none⟩) (n+1) G) W1)
  (hrow:W1.heap[b]? = some (.cells cur.toArray 77 (0,0))) (hcur:(n+1)*2<=cur.length) (hv:CellsAt W1 ad vs) (hvl:vs.length=2) (hd:CellsAt W1 ⟨g,i*2,none⟩ ds) (hgb:g≠b) (hgl:g<W1.heap.size) (hdl:ds.length=(n - i)*2)
  (h1v:∀ u ∈ vs,u.oneCell' = true) (h1d:∀ u ∈ ds,u.oneCell' = true) :
  gy Tryz.prog 92 [.slice (some ⟨g,0,none⟩) n c,.int .i64 (i:Int),.slice (some ad) 1 vc].toArray w fun v w'=>v = .slice (some ⟨b,0,none⟩) (n+1) G/\∃ w1,Kp [] (W1.setRow b (cur.take (i*2)++vs++cur.drop (i*2+vs.length)).toArray) w1/\w' = w1.setRow b ((cur.take (i*2)++vs++cur.drop (i*2+vs.length)).take ((i+1)*2)++ds++(cur.take (i*2)++vs++cur.drop (i*2+vs.length)).drop ((i+1)*2+ds.length)).toArray:=by
 have hGm:G<=9223372036854775807:=hGm
 have hcm:c<=9223372036854775807:=hcm
 have hn1:vs.length=Nat.min 1 (n+1 - i)*2:=by rw [show Nat.min 1 (n+1 - i)=1 from Nat.min_eq_left (by omega),Nat.one_mul]; exact hvl
 have hn2:ds.length=Nat.min (n - i) (n+1 - (i+1))*2:=by rw [show Nat.min (n - i) (n+1 - (i+1))=n - i from Nat.min_eq_left (by omega)]; exact hdl
 refine gy.enter Tryz.func92 rfl rfl rfl rfl ?_
 refine WC.seq ?_
 refine WC.region ?_
 refine WO.v (R.assign rfl) rfl ?_
 refine WO.nil ?_
 refine WX.next ?_
 refine WC.seq ?_
 refine WC.region ?_
 refine WO.v (R.move rfl) rfl ?_
 refine WO.v (R.move rfl) rfl ?_
 refine WO.v (R.bU rfl rfl Tryz.underlying23 cf rfl (by omega)) rfl ?_
 refine WO.nil ?_
 refine WX.next ?_
 refine WC.seq ?_
 refine WC.region ?_
 refine WO.v (R.move rfl) rfl ?_
 refine WO.v (R.len rfl Tryz.underlying23) rfl ?_
 refine WO.v (R.assign rfl) rfl ?_
 refine WO.nil ?_
 refine WX.next ?_
 refine WC.seq ?_
 refine WC.seq ?_
 refine WC.region ?_
 refine WO.v (R.move rfl) rfl ?_
 refine WO.v (R.eql rfl rfl) rfl ?_
 refine WO.nil ?_
 refine WX.next ?_
 refine WC.cond rfl (fun q=>absurd (of_decide_eq_true q) (by omega)) (fun _=>?_)
 refine WC.skip ?_
 refine WX.next ?_
 refine WC.seq ?_
 refine WC.region ?_
 refine WO.v (R.move rfl) rfl ?_
 refine WO.v (R.len rfl Tryz.underlying23) rfl ?_
 refine WO.v (R.assign rfl) rfl ?_
 refine WO.nil ?_
 refine WX.next ?_
 refine WC.seq ?_
 refine WC.seq ?_
 refine WC.region ?_
 refine WO.v (R.move rfl) rfl ?_
 refine WO.v (R.move rfl) rfl ?_
 refine WO.v (R.eql rfl rfl) rfl ?_
 refine WO.nil ?_
 refine WX.next ?_
 refine WC.cond rfl (fun q=>absurd (of_decide_eq_true q) (by omega)) (fun _=>?_)
 refine WC.skip ?_
 refine WX.next ?_
 refine WC.seq ?_
 refine WC.seq ?_
 refine WC.region ?_
 refine WO.v (R.move rfl) rfl ?_
 refine WO.v (R.move rfl) rfl ?_
 refine WO.v (R.iI rfl rfl (by omega)) rfl ?_
 refine WO.v (R.move rfl) rfl ?_
 refine WO.v (R.BK rfl Tryz.underlying23) rfl ?_
 refine WO.v (R.gtr rfl rfl) rfl ?_
 refine WO.nil ?_
 refine WX.next ?_
 refine WC.cond rfl (fun _=>?_) (fun q=>absurd (by omega) (of_decide_eq_false q))
 refine WC.seq ?_
 refine WC.region ?_
 refine WO.v (R.move rfl) rfl ?_
 refine WO.v (R.move rfl) rfl ?_
 refine WO.v (R.jR rfl rfl Tryz.underlying23 cf (di (i:=0) (by omega)) (by omega)) rfl ?_
 refine WO.v (R.move rfl) rfl ?_
 refine WO.v (R.move rfl) rfl ?_
 refine WO.v (R.iI rfl rfl (by omega)) rfl ?_
 refine WO.v (R.move rfl) rfl ?_
 refine WO.v (R.Gn rfl rfl (by omega) (by omega)) rfl ?_
 refine WO.v (happ _ _ _ _ rfl rfl) rfl ?_
 refine WO.v (R.assign rfl) rfl ?_
 refine WO.nil ?_
 refine WX.next ?_
 refine WC.seq ?_
 refine WC.region ?_
 refine WO.v (R.move rfl) rfl ?_
 refine WO.v (R.move rfl) rfl ?_
 refine WO.v (R.bU rfl rfl Tryz.underlying23 cf (di (by omega)) (by omega)) rfl ?_
 refine WO.v (R.move rfl) rfl ?_
 refine WO.v (R.jY rfl rfl Tryz.underlying23 cf hrow hn1 hv (by omega) h1v) rfl ?_
 refine WO.nil ?_
 refine WX.next ?_
 refine WC.seq ?_
 refine WC.mV fG [.ex [] (.slice (some ⟨b,0,none⟩) (n+1) G),.ex [] (.int .i64 ((i:Nat):Int)),.ex [] (.int .i64 ((1:Nat):Int)),.ex [1,2] (.int .i64 ((i+1:Nat):Int)),.ex [0,3] (.slice (some ⟨b,(i+1)*2,none⟩) (n+1 - (i+1)) (G - (i+1))),.ex [] (.slice (some ⟨g,0,none⟩) n c),.ex [] (.int .i64 ((i:Nat):Int)),.ex [5,6] (.slice (some ⟨g,i*2,none⟩) (n - i) (c - i))] 8 (by kernel_rfl) ⟨fun _ _ _ h _=>h,fun _ _ _ h _=>h,fun _ _ _ h _=>h,fun _ _ _ h _=>h,fun _ _ _ h _=>h,fun _ _ _ h _=>h,fun _ _ _ h _=>h,fun _ _ _ h _=>h,trivial⟩ ⟨?_,?_,?_,?_,?_,?_,?_,?_,trivial⟩ ?_
 ·rintro vs wd kd ⟨-⟩
  refine WO.bp (fr':=[(9,.slice (some ⟨b,0,none⟩) (n+1) G)]) ⟨⟨_,rfl,rfl⟩,trivial⟩ ?_
  refine WO.v (R.move rfl) rfl ?_
  refine WO.nil ?_
  exact WX.aI rfl rfl (Kp.refl _)
 ·rintro vs wd kd ⟨-⟩
  refine WO.bp (fr':=[(1,.int .i64 ((i:Nat):Int))]) ⟨⟨_,rfl,rfl⟩,trivial⟩ ?_
  refine WO.v (R.move rfl) rfl ?_
  refine WO.nil ?_
  exact WX.aI rfl rfl (Kp.refl _)
 ·rintro vs wd kd ⟨-⟩
  refine WO.bp (fr':=[(7,.int .i64 ((1:Nat):Int))]) ⟨⟨_,rfl,rfl⟩,trivial⟩ ?_
  refine WO.v (R.move rfl) rfl ?_
  refine WO.nil ?_
  exact WX.aI rfl rfl (Kp.refl _)
 ·rintro vs wd kd ⟨e1,e2,-⟩
  refine WO.bp (fr':=[(47,.int .i64 ((i:Nat):Int)),(48,.int .i64 ((1:Nat):Int))]) ⟨⟨_,rfl,e1⟩,⟨_,rfl,e2⟩,trivial⟩ ?_
  refine WO.v (R.iI rfl rfl (by omega)) rfl ?_
  refine WO.nil ?_
  exact WX.aI rfl rfl (Kp.refl _)
 ·rintro vs wd kd ⟨e0,e3,-⟩
  refine WO.bp (fr':=[(46,.slice (some ⟨b,0,none⟩) (n+1) G),(49,.int .i64 ((i+1:Nat):Int))]) ⟨⟨_,rfl,e0⟩,⟨_,rfl,e3⟩,trivial⟩ ?_
  refine WO.v (R.bU rfl rfl Tryz.underlying23 cf (di (by omega)) (by omega)) rfl ?_
  refine WO.nil ?_
  exact WX.aI rfl rfl (Kp.refl _)
 ·rintro vs wd kd ⟨-⟩
  refine WO.bp (fr':=[(0,.slice (some ⟨g,0,none⟩) n c)]) ⟨⟨_,rfl,rfl⟩,trivial⟩ ?_
  refine WO.v (R.move rfl) rfl ?_
  refine WO.nil ?_
  exact WX.aI rfl rfl (Kp.refl _)
 ·rintro vs wd kd ⟨-⟩
  refine WO.bp (fr':=[(1,.int .i64 ((i:Nat):Int))]) ⟨⟨_,rfl,rfl⟩,trivial⟩ ?_
  refine WO.v (R.move rfl) rfl ?_
  refine WO.nil ?_
  exact WX.aI rfl rfl (Kp.refl _)
 ·rintro vs wd kd ⟨e5,e6,-⟩
  refine WO.bp (fr':=[(51,.slice (some ⟨g,0,none⟩) n c),(52,.int .i64 ((i:Nat):Int))]) ⟨⟨_,rfl,e5⟩,⟨_,rfl,e6⟩,trivial⟩ ?_
  refine WO.v (R.bU rfl rfl Tryz.underlying23 cf (di (by omega)) (by omega)) rfl ?_
  refine WO.nil ?_
  exact WX.aI rfl rfl (Kp.refl _)
 rintro vsx w1 k1 ⟨-,-,-,-,e4,-,-,e7,-⟩
 replace k1:Kp [] (W1.setRow b (cur.take (i*2)++vs++cur.drop (i*2+vs.length)).toArray) w1:=k1
 refine WO.bp (fr':=[(50,.slice (some ⟨b,(i+1)*2,none⟩) (n+1 - (i+1)) (G - (i+1))),(53,.slice (some ⟨g,i*2,none⟩) (n - i) (c - i)),(9,.slice (some ⟨b,0,none⟩) (n+1) G)]) ⟨⟨_,rfl,e4⟩,⟨_,rfl,e7⟩,⟨_,rfl,rfl⟩,trivial⟩ ?_
 have hb2:w1.heap[b]? = some (.cells (List.toArray (cur.take (i*2)++vs++cur.drop (i*2+vs.length))) 77 (0,0)):=by rw [k1.block b (by simpa using aZ hrow) (by simp)]; exact setRow_heap W1 b _ _ 77 _ hrow
 have hd2:CellsAt w1 ⟨g,i*2,none⟩ ds:=(hd.kp (Kp.setRow W1 b _) hgl (by simpa using hgb.symm)).kp k1 (by simpa using hgl) (by simp)
 refine WO.v (R.jY rfl rfl Tryz.underlying23 cf hb2 hn2 hd2 (by simp only [List.length_append,List.length_take,List.length_drop]; omega) h1d) rfl ?_
 refine WO.nil ?_
 refine WX.next ?_
 refine WC.seq ?_
 refine WC.region ?_
 refine WO.v (R.move rfl) rfl ?_
 refine WO.v (R.assign rfl) rfl ?_
 refine WO.nil ?_
 refine WX.next ?_
 refine WC.ret ?_
 refine WX.ga ?_
 refine WX.sd rfl rfl ?_
 exact ⟨rfl,w1,k1,rfl⟩
set_option maxRecDepth 100000 in
set_option maxHeartbeats 1000000 in
theorem oQ {w:World} {g n i c vc:Nat} {ad:Addr} {cur vs ds:List Value} {curA:Array Value} {tA:TypeId} {fA:Nat × Nat} (hi:i<n) (hc:n+1<=c) (hcm:c<=maxLen)
  (hrow:w.heap[g]? = some (.cells cur.toArray 77 (0,0))) (hcur:(n+1)*2<=cur.length) (hv:CellsAt w ad vs) (hvb:w.heap[ad.block]? = some (.cells curA tA fA)) (hvb0:curA.size≠0) (hne:ad.block≠g) (hvl:vs.length=2) (hd:CellsAt w ⟨g,i*2,none⟩ ds) (hdl:ds.length=(n - i)*2)
  (h1v:∀ u ∈ vs,u.oneCell' = true) (h1d:∀ u ∈ ds,u.oneCell' = true) :
  gy Tryz.prog 92 [.slice (some ⟨g,0,none⟩) n c,.int .i64 (i:Int),.slice (some ad) 1 vc].toArray w fun v w'=>v = .slice (some ⟨g,0,none⟩) (n+1) c/\∃ w1,Kp [] w w1/\w' = (w1.setRow g (cur.take ((i+1)*2)++ds++cur.drop ((i+1)*2+ds.length)).toArray).setRow g ((cur.take ((i+1)*2)++ds++cur.drop ((i+1)*2+ds.length)).take (i*2)++vs++(cur.take ((i+1)*2)++ds++cur.drop ((i+1)*2+ds.length)).drop (i*2+vs.length)).toArray:=by
 have hcm:c<=9223372036854775807:=hcm
 have hn1:vs.length=Nat.min 1 (n+1 - i)*2:=by rw [show Nat.min 1 (n+1 - i)=1 from Nat.min_eq_left (by omega),Nat.one_mul]; exact hvl
 have hn2:ds.length=Nat.min (n+1 - i) (n+1 - (i+1))*2:=by rw [show Nat.min (n+1 - i) (n+1 - (i+1))=n+1 - (i+1) from Nat.min_eq_right (by omega),hdl]; congr 1; omega
 refine gy.enter Tryz.func92 rfl rfl rfl rfl ?_
 refine WC.seq ?_
 refine WC.region ?_
 refine WO.v (R.assign rfl) rfl ?_
 refine WO.nil ?_
 refine WX.next ?_
 refine WC.seq ?_
 refine WC.region ?_
 refine WO.v (R.move rfl) rfl ?_
 refine WO.v (R.move rfl) rfl ?_
 refine WO.v (R.bU rfl rfl Tryz.underlying23 cf rfl (by omega)) rfl ?_
 refine WO.nil ?_
 refine WX.next ?_
 refine WC.seq ?_
 refine WC.region ?_
 refine WO.v (R.move rfl) rfl ?_
 refine WO.v (R.len rfl Tryz.underlying23) rfl ?_
 refine WO.v (R.assign rfl) rfl ?_
 refine WO.nil ?_
 refine WX.next ?_
 refine WC.seq ?_
 refine WC.seq ?_
 refine WC.region ?_
 refine WO.v (R.move rfl) rfl ?_
 refine WO.v (R.eql rfl rfl) rfl ?_
 refine WO.nil ?_
 refine WX.next ?_
 refine WC.cond rfl (fun q=>absurd (of_decide_eq_true q) (by omega)) (fun _=>?_)
 refine WC.skip ?_
 refine WX.next ?_
 refine WC.seq ?_
 refine WC.region ?_
 refine WO.v (R.move rfl) rfl ?_
 refine WO.v (R.len rfl Tryz.underlying23) rfl ?_
 refine WO.v (R.assign rfl) rfl ?_
 refine WO.nil ?_
 refine WX.next ?_
 refine WC.seq ?_
 refine WC.seq ?_
 refine WC.region ?_
 refine WO.v (R.move rfl) rfl ?_
 refine WO.v (R.move rfl) rfl ?_
 refine WO.v (R.eql rfl rfl) rfl ?_
 refine WO.nil ?_
 refine WX.next ?_
 refine WC.cond rfl (fun q=>absurd (of_decide_eq_true q) (by omega)) (fun _=>?_)
 refine WC.skip ?_
 refine WX.next ?_
 refine WC.seq ?_
 refine WC.seq ?_
 refine WC.region ?_
 refine WO.v (R.move rfl) rfl ?_
 refine WO.v (R.move rfl) rfl ?_
 refine WO.v (R.iI rfl rfl (by omega)) rfl ?_
 refine WO.v (R.move rfl) rfl ?_
 refine WO.v (R.BK rfl Tryz.underlying23) rfl ?_
 refine WO.v (R.gtr rfl rfl) rfl ?_
 refine WO.nil ?_
 refine WX.next ?_
 refine WC.cond rfl (fun q=>absurd (of_decide_eq_true q) (by omega)) (fun _=>?_)
 refine WC.skip ?_
 refine WX.next ?_
 refine WC.seq ?_
 refine WC.region ?_
 refine WO.v (R.move rfl) rfl ?_
 refine WO.v (R.move rfl) rfl ?_
 refine WO.v (R.move rfl) rfl ?_
 refine WO.v (R.iI rfl rfl (by omega)) rfl ?_
 refine WO.v (R.jR rfl rfl Tryz.underlying23 cf (di (i:=0) (by omega)) (by omega)) rfl ?_
 refine WO.v (R.assign rfl) rfl ?_
 refine WO.nil ?_
 refine WX.next ?_
 refine WC.seq ?_
 refine WC.seq ?_
 refine WC.region ?_
 refine WO.v (R.move rfl) rfl ?_
 refine WO.v (R.move rfl) rfl ?_
 refine WO.v (R.move rfl) rfl ?_
 refine WO.v (R.move rfl) rfl ?_
 refine WO.v (R.iI rfl rfl (by omega)) rfl ?_
 refine WO.v (R.bU rfl rfl Tryz.underlying23 cf (di (by omega)) (by omega)) rfl ?_
 refine WO.v (R.Iw (tS:=23) (tR:=4) Tryz.func124 rfl rfl (by kernel_rfl) (by kernel_rfl) Tryz.underlying23 cf hne hvb hvb0 hrow rfl rfl) rfl ?_
 refine WO.v (R.not rfl) rfl ?_
 refine WO.nil ?_
 refine WX.next ?_
 refine WC.yv rfl ?_
 refine WC.seq ?_
 refine WC.mV fG [.ex [] (.slice (some ⟨g,0,none⟩) (n+1) c),.ex [] (.int .i64 ((i:Nat):Int)),.ex [] (.int .i64 ((1:Nat):Int)),.ex [1,2] (.int .i64 ((i+1:Nat):Int)),.ex [0,3] (.slice (some ⟨g,(i+1)*2,none⟩) (n+1 - (i+1)) (c - (i+1))),.ex [] (.slice (some ⟨g,0,none⟩) (n+1) c),.ex [] (.int .i64 ((i:Nat):Int)),.ex [5,6] (.slice (some ⟨g,i*2,none⟩) (n+1 - i) (c - i))] 8 (by kernel_rfl) ⟨fun _ _ _ h _=>h,fun _ _ _ h _=>h,fun _ _ _ h _=>h,fun _ _ _ h _=>h,fun _ _ _ h _=>h,fun _ _ _ h _=>h,fun _ _ _ h _=>h,fun _ _ _ h _=>h,trivial⟩ ⟨?_,?_,?_,?_,?_,?_,?_,?_,trivial⟩ ?_
 ·rintro vs wd kd ⟨-⟩
  refine WO.bp (fr':=[(0,.slice (some ⟨g,0,none⟩) (n+1) c)]) ⟨⟨_,rfl,rfl⟩,trivial⟩ ?_
  refine WO.v (R.move rfl) rfl ?_
  refine WO.nil ?_
  exact WX.aI rfl rfl (Kp.refl _)
 ·rintro vs wd kd ⟨-⟩
  refine WO.bp (fr':=[(1,.int .i64 ((i:Nat):Int))]) ⟨⟨_,rfl,rfl⟩,trivial⟩ ?_
  refine WO.v (R.move rfl) rfl ?_
  refine WO.nil ?_
  exact WX.aI rfl rfl (Kp.refl _)
 ·rintro vs wd kd ⟨-⟩
  refine WO.bp (fr':=[(7,.int .i64 ((1:Nat):Int))]) ⟨⟨_,rfl,rfl⟩,trivial⟩ ?_
  refine WO.v (R.move rfl) rfl ?_
  refine WO.nil ?_
  exact WX.aI rfl rfl (Kp.refl _)
 ·rintro vs wd kd ⟨e1,e2,-⟩
  refine WO.bp (fr':=[(70,.int .i64 ((i:Nat):Int)),(71,.int .i64 ((1:Nat):Int))]) ⟨⟨_,rfl,e1⟩,⟨_,rfl,e2⟩,trivial⟩ ?_
  refine WO.v (R.iI rfl rfl (by omega)) rfl ?_
  refine WO.nil ?_
  exact WX.aI rfl rfl (Kp.refl _)
 ·rintro vs wd kd ⟨e0,e3,-⟩
  refine WO.bp (fr':=[(69,.slice (some ⟨g,0,none⟩) (n+1) c),(72,.int .i64 ((i+1:Nat):Int))]) ⟨⟨_,rfl,e0⟩,⟨_,rfl,e3⟩,trivial⟩ ?_
  refine WO.v (R.bU rfl rfl Tryz.underlying23 cf (di (by omega)) (by omega)) rfl ?_
  refine WO.nil ?_
  exact WX.aI rfl rfl (Kp.refl _)
 ·rintro vs wd kd ⟨-⟩
  refine WO.bp (fr':=[(0,.slice (some ⟨g,0,none⟩) (n+1) c)]) ⟨⟨_,rfl,rfl⟩,trivial⟩ ?_
  refine WO.v (R.move rfl) rfl ?_
  refine WO.nil ?_
  exact WX.aI rfl rfl (Kp.refl _)
 ·rintro vs wd kd ⟨-⟩
  refine WO.bp (fr':=[(1,.int .i64 ((i:Nat):Int))]) ⟨⟨_,rfl,rfl⟩,trivial⟩ ?_
  refine WO.v (R.move rfl) rfl ?_
  refine WO.nil ?_
  exact WX.aI rfl rfl (Kp.refl _)
 ·rintro vs wd kd ⟨e5,e6,-⟩
  refine WO.bp (fr':=[(74,.slice (some ⟨g,0,none⟩) (n+1) c),(75,.int .i64 ((i:Nat):Int))]) ⟨⟨_,rfl,e5⟩,⟨_,rfl,e6⟩,trivial⟩ ?_
  refine WO.v (R.bU rfl rfl Tryz.underlying23 cf (di (by omega)) (by omega)) rfl ?_
  refine WO.nil ?_
  exact WX.aI rfl rfl (Kp.refl _)
 rintro vsx w1 k1 ⟨-,-,-,-,e4,-,-,e7,-⟩
 replace k1:Kp [] w w1:=k1
 refine WO.bp (fr':=[(73,.slice (some ⟨g,(i+1)*2,none⟩) (n+1 - (i+1)) (c - (i+1))),(76,.slice (some ⟨g,i*2,none⟩) (n+1 - i) (c - i)),(0,.slice (some ⟨g,0,none⟩) (n+1) c),(1,.int .i64 ((i:Nat):Int)),(2,.slice (some ad) 1 vc)]) ⟨⟨_,rfl,e4⟩,⟨_,rfl,e7⟩,⟨_,rfl,rfl⟩,⟨_,rfl,rfl⟩,⟨_,rfl,rfl⟩,trivial⟩ ?_
 have hg1:w1.heap[g]? = some (.cells (List.toArray cur) 77 (0,0)):=by rw [k1.block g (aZ hrow) (by simp)]; exact hrow
 refine WO.v (R.jY rfl rfl Tryz.underlying23 cf hg1 hn2 (hd.kp k1 (aZ hrow) (by simp)) (by omega) h1d) rfl ?_
 refine WO.nil ?_
 refine WX.next ?_
 have hg2:(w1.setRow g (cur.take ((i+1)*2)++ds++cur.drop ((i+1)*2+ds.length)).toArray).heap[g]? = some (.cells (List.toArray (cur.take ((i+1)*2)++ds++cur.drop ((i+1)*2+ds.length))) 77 (0,0)):=setRow_heap w1 g _ _ 77 _ hg1
 have hv2:CellsAt (w1.setRow g (cur.take ((i+1)*2)++ds++cur.drop ((i+1)*2+ds.length)).toArray) ad vs:=(hv.kp k1 (aZ hvb) (by simp)).kp (Kp.setRow w1 g _) (Nat.lt_of_lt_of_le (aZ hvb) k1.size) (by simpa using fun h=>hne h.symm)
 refine WC.seq ?_
 refine WC.region ?_
 refine WO.v (R.move rfl) rfl ?_
 refine WO.v (R.move rfl) rfl ?_
 refine WO.v (R.bU rfl rfl Tryz.underlying23 cf (di (by omega)) (by omega)) rfl ?_
 refine WO.v (R.move rfl) rfl ?_
 refine WO.v (R.jY rfl rfl Tryz.underlying23 cf hg2 hn1 hv2 (by simp only [List.length_append,List.length_take,List.length_drop]; omega) h1v) rfl ?_
 refine WO.nil ?_
 refine WX.next ?_
 refine WC.seq ?_
 refine WC.region ?_
 refine WO.v (R.move rfl) rfl ?_
 refine WO.v (R.assign rfl) rfl ?_
 refine WO.nil ?_
 refine WX.next ?_
 refine WC.ret ?_
 refine WX.ga ?_
 refine WX.sd rfl rfl ?_
 exact ⟨rfl,w1,k1,rfl⟩
theorem sI {G:Gl} {ρ:List RE} {H:AH} {w:World} (hs:G.shp=aq aF) (hR:Rep G ρ H w) {l m:List (den (.nm .opn))} (hH:getO H 0 = .row 77 (.nm .opn) l) (hl:l.length<1048576) {i:Nat} (hi:i<=l.length) {v0:Value} (h0:Rd (cx G ρ w) ρ (.own 0) v0)
  {ad:Addr} {k:Nat} {cys:List Value} {bAV:AV} (hm:m.length=1) (hb:Rd (cx G ρ w) ρ bAV (.slice (some ad) 1 k)) (hbv:(bAV.vw H).eU (.nm .opn)=some m) (hv:CellsAt w ad cys) (hvl:cys.length=2) (h1v:∀ u ∈ cys,u.oneCell' = true) (hp:Pds (cx G ρ w) (m.flatMap (cellsOf (.nm .opn))) cys)
  (hne:∀ g c n z,ρ[0]? = some (.row g c n z)->ad.block≠g) {curA:Array Value} {tA:TypeId} {fA:Nat × Nat} (hvb:w.heap[ad.block]? = some (.cells curA tA fA)) (hvb0:curA.size≠0) :
  gy Tryz.prog 92 [v0,.int .i64 (i:Int),.slice (some ad) 1 k].toArray w fun v w'=>∃ ρ',Stp (vu 0) ρ w ρ' w' /\ Rep G ρ' ((ep (AV.kill 0) H).set 0 (.row 77 (.nm .opn) (l.take i++m++l.drop i))) w' /\ Rd (cx G ρ' w') ρ' (.own 0) v:=by
 have hT:bk Tryz.prog G.shp aF:=hs ▸ fF
 obtain ⟨hshp,hlen⟩:=cO hR hH
 have hl64:l.length<=9223372036854775807:=by omega
 have hin:((l.length:Nat):Int)<=9223372036854775807:=by omega
 by_cases hie:i=l.length
 ·subst hie
  have hc:∃ A c,v0 = .slice A l.length c:=by
   rcases h0 with ⟨g,cap,len,z,h1,rfl⟩ | ⟨h1,a,rfl⟩
   ·rcases bn hR hH with ⟨h2,_⟩ | ⟨g',cap',cells,sp,h2,_⟩
    ·rw [h1] at h2; cases h2
    ·rw [h1] at h2; cases h2; exact ⟨_,_,rfl⟩
   ·rcases bn hR hH with ⟨_,h2⟩ | ⟨g',cap',cells,sp,h2,_⟩
    ·subst h2; exact ⟨_,_,rfl⟩
    ·rw [h1] at h2; cases h2
  obtain ⟨A,c,rfl⟩:=hc
  refine sD fun F x y ty hx hy=>?_
  have happ:fl aF (vu 0) ([]:AFr) H 23 (.own 0) bAV=some ⟨one (.own 0),[],(ep (AV.kill 0) H).set 0 (.row 77 (.nm .opn) (l++m)),[(l.length+m.length)*(Sh.nm NT.opn).bytes<=140737488355328],[]⟩:=by
   unfold fl
   rw [show bm aF 23=some ⟨.sl 77 (some (.nm .opn)),1,[.em true]⟩ from by kernel_rfl]
   simp only [hbv,hH]
   rfl
  obtain ⟨v,w',h1,ρ',h2,h3,_,h5,_⟩:=ff (P:=Tryz.prog) (n:=95) (F:=[]) (ty:=ty) (fr:=[]) (x:=.const (.slice A l.length c)) (y:=.const (.slice (some ad) 1 k)) hT hR .nil happ (by
   intro p hp
   rw [List.mem_singleton] at hp; subst hp
   show (l.length+m.length)*16<=_
   omega) h0 hb rfl rfl
  refine ⟨v,w',R.tP h1 hx hy,ρ',h2,?_,h5⟩
  rw [List.take_length,List.drop_length,List.append_nil]
  exact h3
 ·have hlt:i<l.length:=by omega
  rcases bn hR hH with ⟨_,h2⟩ | ⟨g,cap,cells,sp,hρ,hg,hpd,hsz,hcap,hmax⟩
  ·subst h2; simp at hlt
  obtain ⟨hnb,hil,hiH⟩:=jQ hR hH
  have hv0:v0 = .slice (some ⟨g,0,none⟩) l.length cap:=by
   rcases h0 with ⟨g',cap',len,z,h1,rfl⟩ | ⟨h1,a,rfl⟩
   ·rw [hρ] at h1; cases h1; rfl
   ·rw [hρ] at h1; cases h1
  subst hv0
  have hz:(Sh.nm NT.opn).size=2:=rfl
  have hby:(Sh.nm NT.opn).bytes=16:=rfl
  have hcl:cells.length=l.length*2:=by rw [<- hpd.length,bD,hz]
  rw [hz,List.length_append] at hsz
  have hone:∀ u ∈ cells.drop (i*2),u.oneCell' = true:=fun u hu=>hpd.zQ u (List.mem_of_mem_drop hu)
  have hd:CellsAt w ⟨g,i*2,none⟩ (cells.drop (i*2)):=by
   have:=(bP hg).shift (i*2)
   rwa [add_lit,Nat.zero_add] at this
  have hdl:(cells.drop (i*2)).length=(l.length - i)*2:=by rw [List.length_drop,hcl]; omega
  have hgl:=aZ hg
  have hzl:(l.take i++m++l.drop i).length=l.length+1:=by
   rw [List.length_append,List.length_append,List.length_take,List.length_drop,hm]; omega
  have hnew:∀ {c:Cx},(cx G ρ w).le c->Pds c ((l.take i++m++l.drop i).flatMap (cellsOf (.nm .opn))) (cells.take (i*2)++cys++cells.drop (i*2)):=fun {c} hle=>by
   rw [List.flatMap_append,List.flatMap_append]
   exact (((bA hpd i).append hp).append (bG hpd i)).carry hle
  have hnl:(cells.take (i*2)++cys++cells.drop (i*2)).length=(l.length+1)*2:=by
   rw [List.length_append,List.length_append,List.length_take,List.length_drop,hcl,hvl]; omega
  have hbig:(l.take i++m++l.drop i).length*(Sh.nm NT.opn).bytes<=140737488355328:=by rw [hzl,hby]; omega
  -- what is shown of any way
  have fin:∀ (S:List Nat) (g2 cap2:Nat) (sp2:List Value) (w':World),Kp S w w' -> (∀ b ∈ S,b=g)->(g2=g\/w.heap.size<=g2)->w'.heap[g2]? = some (.cells (List.toArray (cells.take (i*2)++cys++cells.drop (i*2)++sp2)) 77 (0,0))->(l.length+1)*2+sp2.length=cap2*2->l.length+1<=cap2->cap2<=maxLen ->
    ∃ ρ',Stp (vu 0) ρ w ρ' w' /\ Rep G ρ' ((ep (AV.kill 0) H).set 0 (.row 77 (.nm .opn) (l.take i++m++l.drop i))) w' /\ Rd (cx G ρ' w') ρ' (.own 0) (.slice (some ⟨g2,0,none⟩) (l.length+1) cap2):=by
   intro S g2 cap2 sp2 w' hk hS hg2 hh hlen2 hle2 hmax2
   obtain ⟨k1,k2,_⟩:=iN (ro:=vu 0) (s':=.nm .opn) (e':=77) (zs:=l.take i++m++l.drop i) hR hH ⟨rfl,rfl⟩ hk (fun b hb=>⟨_,hρ,by rw [hS b hb]; rfl⟩) (r':=.row g2 cap2 (l.take i++m++l.drop i).length (Sh.nm NT.opn).size) (fun b hb=>by
    cases hb
    rcases hg2 with rfl | hg2
    ·exact .inl ⟨_,hρ,rfl⟩
    ·exact .inr ⟨hg2,aZ hh⟩) (fun hle=>⟨hshp,hbig,.inr ⟨g2,cap2,_,sp2,rfl,hh,hnew hle,by rw [List.length_append,hnl,hz]; exact hlen2,by rw [hzl]; exact hle2,hmax2⟩⟩)
   exact ⟨_,k1,k2,.inl ⟨g2,cap2,_,_,List.getElem?_set_self hil,by rw [hzl]⟩⟩
  have eo:(i+1)*2=i*2+2:=by omega
  by_cases hroom:l.length+1<=cap
  ·refine (oQ hlt hroom hmax hg (by rw [List.length_append]; omega) hv hvb hvb0 (hne _ _ _ _ hρ) hvl hd hdl h1v hone).mono fun v w' ⟨e1,w1,k1,e2⟩=>?_
   subst e1; subst e2
   rw [eo,CS (by omega) hvl]
   have hk:Kp [g] w ((w1.setRow g ((cells++sp).take (i*2+2)++cells.drop (i*2)++(cells++sp).drop (i*2+2+(cells.drop (i*2)).length)).toArray).setRow g (cells.take (i*2)++cys++cells.drop (i*2)++sp.drop 2).toArray):=((k1.sub (by simp)).step (Kp.setRow w1 g _) (by simp)).step (Kp.setRow _ g _) (by simp)
   have hg1:w1.heap[g]? = some (.cells (List.toArray (cells++sp)) 77 (0,0)):=by rw [k1.block g hgl (by simp)]; exact hg
   exact fin [g] g cap (sp.drop 2) _ hk (by simp) (.inl rfl) (setRow_heap _ g _ _ 77 _ (setRow_heap w1 g _ _ 77 _ hg1)) (by rw [List.length_drop]; omega) hroom hmax
  ·obtain ⟨ti,hi0,hz0,hz1,hz2⟩:=info_parts uh
   have eik:i+(l.length+1 - i)=l.length+1:=by omega
   have hge:=grownCap_ge w (l.length+1) cap 77
   have hgm:=grownCap_le_maxLen w (l.length+1) cap 77 (by simp [maxLen]; omega)
   have hold:(Builtin.firstCells ti.size i (.slice (some ⟨g,0*2,none⟩) i cap)).run Tryz.prog w.drew = .ok (cells.take (i*2)).toArray w.drew:=by
    have h:=run_loadCells_list (P:=Tryz.prog) w.drew ⟨g,0*2,none⟩ (cells.take (i*2)) (by rw [Nat.zero_mul]; exact (bP hg).take _)
    rw [List.length_take,Nat.min_eq_left (by omega)] at h
    rw [hz1]; exact h
   have happ:∀ (F:Fr) (x y:Operand) (ty:TypeId),ev F x=some (.slice (some ⟨g,0*2,none⟩) i cap)->ev F y=some (.int .i64 ((l.length+1 - i:Nat):Int))->aK Tryz.prog 95 F w (.call { callee:=.builtin .append,args:=#[x,y],argTypes:=#[23,3] }) ty (.slice (some ⟨w.heap.size,0,none⟩) (l.length+1) (grownCap w (l.length+1) cap 77)) (w.drew.alloc (.cells (List.toArray (cells.take (i*2)++((Builtin.zeroCells (Value.agg #[.int .i64 0,.int .i64 0]).cells (l.length+1 - i)).toList++(Builtin.zeroCells (Value.agg #[.int .i64 0,.int .i64 0]).cells (grownCap w (l.length+1) cap 77 - (l.length+1))).toList))) 77)):=fun F x y ty hx hy=>by
    have h:=R.Gr (P:=Tryz.prog) (n:=95) (ty:=ty) hx hy Tryz.underlying23 Tryz.underlying3 hi0 hz0 hold (by omega) (by rw [hz1]; decide) (by omega) (by omega) (by rw [hz2]; omega) (by rw [hz2,eik]; exact growslice_fits (by omega) (by omega))
    rw [eik] at h
    have e:∀ (a:List Value) (b c:Array Value),a.toArray++b++c=(a++(b.toList++c.toList)).toArray:=fun a b c=>by apply Array.ext'; simp
    rw [e] at h
    exact h
   have hcurl:(cells.take (i*2)++((Builtin.zeroCells (Value.agg #[.int .i64 0,.int .i64 0]).cells (l.length+1 - i)).toList++(Builtin.zeroCells (Value.agg #[.int .i64 0,.int .i64 0]).cells (grownCap w (l.length+1) cap 77 - (l.length+1))).toList)).length=grownCap w (l.length+1) cap 77*2:=by
    rw [List.length_append,List.length_append,List.length_take,mw,mw]
    show min _ _+((l.length+1 - i)*2+(grownCap w (l.length+1) cap 77 - (l.length+1))*2)=_
    omega
   have htk:(cells.take (i*2)++((Builtin.zeroCells (Value.agg #[.int .i64 0,.int .i64 0]).cells (l.length+1 - i)).toList++(Builtin.zeroCells (Value.agg #[.int .i64 0,.int .i64 0]).cells (grownCap w (l.length+1) cap 77 - (l.length+1))).toList)).take (i*2)=cells.take (i*2):=List.take_left' (by rw [List.length_take]; omega)
   generalize grownCap w (l.length+1) cap 77=GC at *
   generalize cells.take (i*2)++((Builtin.zeroCells (Value.agg #[.int .i64 0,.int .i64 0]).cells (l.length+1 - i)).toList++(Builtin.zeroCells (Value.agg #[.int .i64 0,.int .i64 0]).cells (GC - (l.length+1))).toList)=cur at *
   have hK1:Kp [] w (w.drew.alloc (.cells (List.toArray cur) 77)):=((Kp.refl w).drew).step (Kp.alloc w.drew _) (by simp)
   have hrow:(w.drew.alloc (.cells (List.toArray cur) 77)).heap[w.heap.size]? = some (.cells (List.toArray cur) 77 (0,0)):=heap_alloc_new w.drew _
   generalize w.drew.alloc (.cells (List.toArray cur) 77)=W1 at *
   refine (qo hlt hcap (by omega) hmax hge hgm happ hrow (by omega) (hv.kp hK1 (aZ hvb) (by simp)) hvl (hd.kp hK1 hgl (by simp)) (by omega) (Nat.lt_of_lt_of_le hgl hK1.size) hdl h1v hone).mono fun v w' ⟨e1,w1,k1,e2⟩=>?_
   subst e1; subst e2
   rw [eo,Dm (cells:=cells) (by omega) hvl htk]
   have hs1:∀ b ∈ [w.heap.size],b ∈ ([]:List Nat)\/w.heap.size<=b:=fun b hb=>.inr (by rw [List.mem_singleton] at hb; omega)
   have hk:Kp [] w (w1.setRow w.heap.size (cells.take (i*2)++cys++cells.drop (i*2)++cur.drop (i*2+2+(cells.drop (i*2)).length)).toArray):=((hK1.step (Kp.setRow W1 w.heap.size _) hs1).step k1 (by simp)).step (Kp.setRow w1 w.heap.size _) hs1
   have hg1:=(k1.block w.heap.size (by simpa using aZ hrow) (by simp)).trans (setRow_heap W1 w.heap.size _ (cur.take (i*2)++cys++cur.drop (i*2+cys.length)).toArray 77 _ hrow)
   exact fin [] w.heap.size GC _ _ hk (by simp) (.inr (Nat.le_refl _)) (setRow_heap w1 w.heap.size _ _ 77 _ hg1) (by rw [List.length_drop]; omega) hge hgm
theorem nT (i:Int) (l m:List (den (.nm .opn))) (h:0<=i/\i<=(l.length:Int)) (hl:l.length<1048576) (hm:m.length=1):Sat Tryz.prog (aq aF) 92 [.c (.own 0),.c (.int i),.c (.fz (.nm .opn) m)] [.row 77 (.nm .opn) l] ⟨[0<=i/\i<=(l.length:Int),l.length<1048576,m.length=1],[.c (.own 0)],some [.row 77 (.nm .opn) (l.take i.toNat++m++l.drop i.toNat)],false⟩:=by
 refine ⟨⟨_,Tryz.func92,by decide,rfl⟩,fun G ρ w vs hs hR hvs=>?_⟩
 obtain ⟨i,rfl⟩:=Int.eq_ofNat_of_zero_le h.1
 cases hvs with | cons h0 hvs=>
 cases hvs with | cons h1 hvs=>
 cases hvs with | cons h2 hvs=>
 cases hvs
 have h1:Pd (cx G ρ w) (.int (i:Int)) _:=h1
 cases h1
 have h0:Rd (cx G ρ w) ρ (.own 0) _:=h0
 have h2:Rd (cx G ρ w) ρ (.fz (.nm .opn) m) _:=h2
 have hH:getO [AO.row 77 (.nm .opn) l] 0 = .row 77 (.nm .opn) l:=rfl
 have hbv:(AV.vw [AO.row 77 (.nm .opn) l] (.fz (.nm .opn) m)).eU (.nm .opn)=some m:=by simp [AV.vw,AV.eU,getO]
 obtain ⟨A,k,cys,rfl,s1,s2,s3,s4⟩:=lz hR hbv h2
 rw [hm] at h2 s1 s3
 rw [hm]
 obtain ⟨ad,rfl,s5⟩:∃ ad,A=some ad/\CellsAt w ad cys:=s3.resolve_left (by decide)
 have hz:(Sh.nm NT.opn).size=2:=rfl
 rw [hz] at s1
 obtain ⟨u,hu⟩:∃ u,cys[0]? = some u:=⟨_,List.getElem?_eq_getElem (by omega)⟩
 obtain ⟨cur,t,f,hc,hc0⟩:=nn (s5 0 u hu)
 have hne:∀ g c n z,ρ[0]? = some (.row g c n z)->ad.block≠g:=fun g c n z hg e=>by
  have h2:Pd (cx G ρ w) (.fz (.nm .opn) m) (.slice (some ad) 1 k):=h2
  have h3:=E_ h2 (by rw [hm]; decide)
  exact h3.1.2.1 ⟨0,_,hg,by rw [e]; rfl⟩
 rw [eJ] at hc
 refine (sI hs hR hH hl (by omega) h0 hm h2 hbv s5 s1 s2 s4 hne hc hc0).mono fun v w' ⟨ρ',k1,k2,k3⟩=>?_
 exact ⟨[v],rfl,ρ',k2,k1.ext,k1.bx,.cons k3 .nil,fun hb=>by cases hb⟩
theorem yL:(Builtin.zeroCells (Value.agg #[.int .i64 0,.int .i64 0]).cells 1).toList=[.int .i64 0,.int .i64 0]:=by kernel_rfl
set_option maxRecDepth 100000 in
set_option maxHeartbeats 1000000 in
theorem xQ {w:World} {g n i c:Nat} {cur ds:List Value} {ti:TypeInfo} (hi:i<n) (hnc:n<=c) (hcm:c<=maxLen) (hg:w.heap[g]? = some (.cells cur.toArray 77 (0,0))) (hcur:n*2<=cur.length) (hdl:ds.length=(n - (i+1))*2) (hd:CellsAt w (if c=i+1 then ⟨g,0,none⟩ else (⟨g,0,none⟩:Addr).add ((i+1)*2)) ds) (h1d:∀ u ∈ ds,u.oneCell' = true)
  (hi0:Tryz.prog.info? 77=some ti) (hz0:ti.zero=some (.agg #[.int .i64 0,.int .i64 0])) (hz1:ti.size=2) :
  gy Tryz.prog 95 [.slice (some ⟨g,0,none⟩) n c,.int .i64 (i:Int),.int .i64 ((i+1:Nat):Int)].toArray w fun v w'=>v = .slice (some ⟨g,0,none⟩) (i+(n - (i+1))) c/\∃ w1,Kp [] w w1/\w' = (w1.setRow g (cur.take (i*ti.size)++ds++cur.drop (i*ti.size+ds.length)).toArray).setRow g ((cur.take (i*ti.size)++ds++cur.drop (i*ti.size+ds.length)).take ((i+(n - (i+1)))*2)++(Builtin.zeroCells (Value.agg #[.int .i64 0,.int .i64 0]).cells 1).toList++(cur.take (i*ti.size)++ds++cur.drop (i*ti.size+ds.length)).drop ((i+(n - (i+1)))*2+(Builtin.zeroCells (Value.agg #[.int .i64 0,.int .i64 0]).cells 1).toList.length)).toArray:=by
 have hcm:c<=9223372036854775807:=hcm
 refine gy.enter Tryz.func95 rfl rfl rfl rfl ?_
 refine WC.seq ?_
 refine WC.region ?_
 refine WO.v (R.assign rfl) rfl ?_
 refine WO.nil ?_
 refine WX.next ?_
 refine WC.seq ?_
 refine WC.region ?_
 refine WO.v (R.move rfl) rfl ?_
 refine WO.v (R.move rfl) rfl ?_
 refine WO.v (R.move rfl) rfl ?_
 refine WO.v (R.move rfl) rfl ?_
 refine WO.v (R.len rfl Tryz.underlying23) rfl ?_
 refine WO.v (R.slice3 rfl rfl rfl rfl Tryz.underlying23 cf (by omega) (by omega) (by omega)) rfl ?_
 refine WO.nil ?_
 refine WX.next ?_
 refine WC.seq ?_
 refine WC.seq ?_
 refine WC.region ?_
 refine WO.v (R.move rfl) rfl ?_
 refine WO.v (R.move rfl) rfl ?_
 refine WO.v (R.eql rfl rfl) rfl ?_
 refine WO.nil ?_
 refine WX.next ?_
 refine WC.cond rfl (fun q=>absurd (of_decide_eq_true q) (by omega)) (fun _=>?_)
 refine WC.skip ?_
 refine WX.next ?_
 refine WC.seq ?_
 refine WC.region ?_
 refine WO.v (R.move rfl) rfl ?_
 refine WO.v (R.len rfl Tryz.underlying23) rfl ?_
 refine WO.v (R.assign rfl) rfl ?_
 refine WO.nil ?_
 refine WX.next ?_
 refine WC.seq ?_
 refine WC.mV fG [.ex [] (.slice (some ⟨g,0,none⟩) n c),.ex [] (.int .i64 ((i:Nat):Int)),.ex [0,1] (.slice (some ⟨g,0*2,none⟩) (i - 0) (c - 0)),.ex [] (.slice (some ⟨g,0,none⟩) n c),.ex [] (.int .i64 ((i+1:Nat):Int)),.ex [3,4] (.slice (some (if c=i+1 then ⟨g,0,none⟩ else (⟨g,0,none⟩:Addr).add ((i+1)*2))) (n - (i+1)) (c - (i+1)))] 6 (by kernel_rfl) ⟨fun _ _ _ h _=>h,fun _ _ _ h _=>h,fun _ _ _ h _=>h,fun _ _ _ h _=>h,fun _ _ _ h _=>h,fun _ _ _ h _=>h,trivial⟩ ⟨?_,?_,?_,?_,?_,?_,trivial⟩ ?_
 ·rintro vs wd kd ⟨-⟩
  refine WO.bp (fr':=[(0,.slice (some ⟨g,0,none⟩) n c)]) ⟨⟨_,rfl,rfl⟩,trivial⟩ ?_
  refine WO.v (R.move rfl) rfl ?_
  refine WO.nil ?_
  exact WX.aI rfl rfl (Kp.refl _)
 ·rintro vs wd kd ⟨-⟩
  refine WO.bp (fr':=[(1,.int .i64 ((i:Nat):Int))]) ⟨⟨_,rfl,rfl⟩,trivial⟩ ?_
  refine WO.v (R.move rfl) rfl ?_
  refine WO.nil ?_
  exact WX.aI rfl rfl (Kp.refl _)
 ·rintro vs wd kd ⟨e0,e1,-⟩
  refine WO.bp (fr':=[(20,.slice (some ⟨g,0,none⟩) n c),(21,.int .i64 ((i:Nat):Int))]) ⟨⟨_,rfl,e0⟩,⟨_,rfl,e1⟩,trivial⟩ ?_
  refine WO.v (R.jR rfl rfl Tryz.underlying23 cf (di (i:=0) (by omega)) (by omega)) rfl ?_
  refine WO.nil ?_
  exact WX.aI rfl rfl (Kp.refl _)
 ·rintro vs wd kd ⟨-⟩
  refine WO.bp (fr':=[(0,.slice (some ⟨g,0,none⟩) n c)]) ⟨⟨_,rfl,rfl⟩,trivial⟩ ?_
  refine WO.v (R.move rfl) rfl ?_
  refine WO.nil ?_
  exact WX.aI rfl rfl (Kp.refl _)
 ·rintro vs wd kd ⟨-⟩
  refine WO.bp (fr':=[(2,.int .i64 ((i+1:Nat):Int))]) ⟨⟨_,rfl,rfl⟩,trivial⟩ ?_
  refine WO.v (R.move rfl) rfl ?_
  refine WO.nil ?_
  exact WX.aI rfl rfl (Kp.refl _)
 ·rintro vs wd kd ⟨e3,e4,-⟩
  refine WO.bp (fr':=[(23,.slice (some ⟨g,0,none⟩) n c),(24,.int .i64 ((i+1:Nat):Int))]) ⟨⟨_,rfl,e3⟩,⟨_,rfl,e4⟩,trivial⟩ ?_
  refine WO.v (R.bU rfl rfl Tryz.underlying23 cf DK (by omega)) rfl ?_
  refine WO.nil ?_
  exact WX.aI rfl rfl (Kp.refl _)
 rintro vsx w1 k1 ⟨-,-,e2,-,-,e5,-⟩
 replace k1:Kp [] w w1:=k1
 refine WO.bp (fr':=[(22,.slice (some ⟨g,0*2,none⟩) (i - 0) (c - 0)),(25,.slice (some (if c=i+1 then ⟨g,0,none⟩ else (⟨g,0,none⟩:Addr).add ((i+1)*2))) (n - (i+1)) (c - (i+1))),(7,.int .i64 ((n:Nat):Int))]) ⟨⟨_,rfl,e2⟩,⟨_,rfl,e5⟩,⟨_,rfl,rfl⟩,trivial⟩ ?_
 have hg1:w1.heap[g]? = some (.cells (List.toArray cur) 77 (0,0)):=by rw [k1.block g (aZ hg) (by simp)]; exact hg
 have hd1:CellsAt w1 (if c=i+1 then ⟨g,0,none⟩ else (⟨g,0,none⟩:Addr).add ((i+1)*2)) ds:=hd.keep (k1.block _ (by split <;> exact aZ hg) (by simp))
 refine WO.v (R.Bg (sl:=i) (sc:=c) rfl rfl Tryz.underlying23 hi0 hg1 (by rw [hz1]; exact hdl) hd1 h1d (by omega) (by rw [hz1]; omega)) rfl ?_
 refine WO.v (R.assign rfl) rfl ?_
 refine WO.nil ?_
 refine WX.next ?_
 have hg2:=setRow_heap w1 g _ (cur.take (i*ti.size)++ds++cur.drop (i*ti.size+ds.length)).toArray 77 _ hg1
 refine WC.seq ?_
 refine WC.region ?_
 refine WO.v (R.move rfl) rfl ?_
 refine WO.v (R.move rfl) rfl ?_
 refine WO.v (R.len rfl Tryz.underlying23) rfl ?_
 refine WO.v (R.move rfl) rfl ?_
 refine WO.v (R.vd rfl rfl rfl Tryz.underlying23 cf (di (by omega)) (by omega) (by omega)) rfl ?_
 refine WO.v0 (R.II rfl (by omega) Tryz.underlying23 hi0 hz0 (by rw [yL]; simp [Value.oneCell']) hg2 (by rw [mw,hz1]; simp only [List.length_append,List.length_take,List.length_drop]; show _+1*2<=_; omega)) ?_
 refine WO.nil ?_
 refine WX.next ?_
 refine WC.seq ?_
 refine WC.region ?_
 refine WO.v (R.move rfl) rfl ?_
 refine WO.v (R.assign rfl) rfl ?_
 refine WO.nil ?_
 refine WX.next ?_
 refine WC.ret ?_
 refine WX.sd rfl rfl ?_
 exact ⟨rfl,w1,k1,rfl⟩
theorem ry (i j:Int) (l:List (den (.nm .opn))) (h:0<=i/\i<(l.length:Int)/\j=i+1):Sat Tryz.prog (aq aF) 95 [.c (.own 0),.c (.int i),.c (.int j)] [.row 77 (.nm .opn) l] ⟨[0<=i/\i<(l.length:Int)/\j=i+1],[.c (.own 0)],some [.row 77 (.nm .opn) (l.take i.toNat++l.drop j.toNat)],false⟩:=by
 refine ⟨⟨_,Tryz.func95,by decide,rfl⟩,fun G ρ w vs hs hR hvs=>?_⟩
 obtain ⟨hi0,hi1,rfl⟩:=h
 obtain ⟨i,rfl⟩:=Int.eq_ofNat_of_zero_le hi0
 have hlt:i<l.length:=by omega
 cases hvs with | cons h0 hvs=>
 cases hvs with | cons h1 hvs=>
 cases hvs with | cons h2 hvs=>
 cases hvs
 have h1:Pd (cx G ρ w) (.int (i:Int)) _:=h1
 have h2:Pd (cx G ρ w) (.int ((i:Int)+1)) _:=h2
 cases h1
 cases h2
 have h0:Rd (cx G ρ w) ρ (.own 0) _:=h0
 have hH:getO [AO.row 77 (.nm .opn) l] 0 = .row 77 (.nm .opn) l:=rfl
 obtain ⟨hshp,hlen⟩:=cO hR hH
 rcases bn hR hH with ⟨_,h2⟩ | ⟨g,cap,cells,sp,hρ,hg,hpd,hsz,hcap,hmax⟩
 ·subst h2; simp at hlt
 obtain ⟨hnb,hil,hiH⟩:=jQ hR hH
 have hz:(Sh.nm NT.opn).size=2:=rfl
 have hby:(Sh.nm NT.opn).bytes=16:=rfl
 have hcl:cells.length=l.length*2:=by rw [<- hpd.length,bD,hz]
 rw [hz,List.length_append] at hsz
 rw [hby] at hlen
 obtain ⟨ti,hi0,hz0,hz1,hz2⟩:=info_parts uh
 have hone:∀ u ∈ cells.drop ((i+1)*2),u.oneCell' = true:=fun u hu=>hpd.zQ u (List.mem_of_mem_drop hu)
 have hd:CellsAt w (if cap=i+1 then ⟨g,0,none⟩ else (⟨g,0,none⟩:Addr).add ((i+1)*2)) (cells.drop ((i+1)*2)):=by
  split
  ·rw [List.drop_of_length_le (by omega)]; exact CellsAt.nil
  ·exact (bP hg).shift _
 have hv0:∀ v,Rd (cx G ρ w) ρ (.own 0) v->v = .slice (some ⟨g,0,none⟩) l.length cap:=fun v h0=>by
  rcases h0 with ⟨g',cap',len,z,h1,rfl⟩ | ⟨h1,a,rfl⟩
  ·rw [hρ] at h1; cases h1; rfl
  ·rw [hρ] at h1; cases h1
 obtain rfl:=hv0 _ h0
 have e0:((i:Int)+1)=((i+1:Nat):Int):=by omega
 rw [e0]
 refine (xQ hlt hcap hmax hg (by rw [List.length_append]; omega) (by rw [List.length_drop,hcl]; omega) hd hone hi0 hz0 hz1).mono fun v w' ⟨e1,w1,k1,e2⟩=>?_
 subst e1
 have hq:i+(l.length - (i+1))=l.length - 1:=by omega
 rw [hq,hz1,yL] at e2
 rw [hq]
 have hzl:(l.take i++l.drop (i+1)).length=l.length - 1:=by rw [List.length_append,List.length_take,List.length_drop]; omega
 have hnl:(cells.take (i*2)++cells.drop ((i+1)*2)).length=(l.length - 1)*2:=by rw [List.length_append,List.length_take,List.length_drop]; omega
 have htk:((cells++sp).take (i*2)++cells.drop ((i+1)*2)++(cells++sp).drop (i*2+(cells.drop ((i+1)*2)).length)).take ((l.length - 1)*2)=cells.take (i*2)++cells.drop ((i+1)*2):=by
  rw [List.take_append_of_le_length (l₁:=cells) (by omega)]
  exact List.take_left' hnl
 have hr1l:((cells++sp).take (i*2)++cells.drop ((i+1)*2)++(cells++sp).drop (i*2+(cells.drop ((i+1)*2)).length)).length=cap*2:=by
  simp only [List.length_append,List.length_drop,List.length_take]
  omega
 generalize (cells++sp).take (i*2)++cells.drop ((i+1)*2)++(cells++sp).drop (i*2+(cells.drop ((i+1)*2)).length)=r1 at e2 htk hr1l
 rw [htk,List.append_assoc] at e2
 generalize hsp2:([.int .i64 0,.int .i64 0]:List Value)++List.drop ((l.length - 1)*2+([.int .i64 0,.int .i64 0]:List Value).length) r1=sp2 at e2
 have hlen2:(l.length - 1)*2+sp2.length=cap*2:=by
  rw [<- hsp2]
  simp only [List.length_append,List.length_cons,List.length_nil,List.length_drop]
  omega
 have hg1:w1.heap[g]? = some (.cells (List.toArray (cells++sp)) 77 (0,0)):=by rw [k1.block g (aZ hg) (by simp)]; exact hg
 have hh:=setRow_heap _ g _ (cells.take (i*2)++cells.drop ((i+1)*2)++sp2).toArray 77 _ (setRow_heap w1 g _ r1.toArray 77 _ hg1)
 have hk:=((k1.sub (T:=[g]) (by simp)).step (Kp.setRow w1 g r1.toArray) (by simp)).step (Kp.setRow _ g (cells.take (i*2)++cells.drop ((i+1)*2)++sp2).toArray) (by simp)
 subst e2
 obtain ⟨k2,k3,_⟩:=iN (ro:=vu 0) (s':=.nm .opn) (e':=77) (zs:=l.take i++l.drop (i+1)) hR hH ⟨rfl,rfl⟩ hk (fun b hb=>⟨_,hρ,by rw [List.mem_singleton] at hb; subst hb; rfl⟩) (r':=.row g cap (l.take i++l.drop (i+1)).length (Sh.nm NT.opn).size) (fun b hb=>by
  cases hb; exact .inl ⟨_,hρ,rfl⟩) (fun hle=>⟨hshp,by rw [hzl,hby]; omega,.inr ⟨g,cap,_,sp2,rfl,hh,by
   rw [List.flatMap_append]; exact ((bA hpd i).append (bG hpd (i+1))).carry hle,by rw [List.length_append,hnl,hz]; exact hlen2,by omega,hmax⟩⟩)
 exact ⟨[_],rfl,_,k3,k2.ext,k2.bx,.cons (.inl ⟨g,cap,_,_,List.getElem?_set_self hil,by rw [hzl]⟩) .nil,fun hb=>by cases hb⟩
end Go.Proofs.YtdggohppeeaipaaGreat
namespace Go.Proofs.YtdggohppeeaipaaGreat
open Go.RowKit
def qH {β:Type} (z:β) (k:Int):List (Int × β)->β
 | []=>z
 | p :: r=>if k=p.1 then p.2 else qH z k r
end Go.Proofs.YtdggohppeeaipaaGreat
namespace Go.Proofs.YtdggohppeeaipaaGreat
open Go.RowKit
def iu (a b:Int):Int:=if (1<=a/\a<=3)/\(1<=b/\b<=3) then (if a<b then 32 else 0) else 1
def bc (n:Int):Bool:=decide (1<=n) && decide (n<=3)
def er (l:List Int) (k:Nat):Int:=((l.take k).tail).foldl min (l.headD 0)
def qk (l:List Int):Int:=l.tail.foldl min (l.headD 0)
def dO (l:List Int):Int:=if decide (l.length=0) || !l.all bc then 0 else qk l
def gU (v:Int) (l:List Int):Bool:=(decide (1<=v) && decide (v<3)) && decide (v<dO l)
theorem aD {α:Type} {l:List α} {k:Nat} {x:α} (hx:l[k]? = some x):l.take (k+1)=l.take k++[x]:=by
 rw [List.take_add_one,hx]; rfl
theorem sX {l:List Int} {k:Nat} {x:Int} (hk:1<=k) (hx:l[k]? = some x):min (er l k) x=er l (k+1):=by
 unfold er
 rw [aD hx,List.tail_append_of_ne_nil,List.foldl_append]
 ·rfl
 ·intro h
  have h3:(l.take k).length=0:=by rw [h]; rfl
  have h2:=sk hx
  rw [List.length_take] at h3
  omega
theorem jr {l:List Int} {x:Int} (hx:l[0]? = some x):x=er l 1:=by
 cases l with
 | nil=>simp at hx
 | cons a r=>simp at hx; simp [er,hx]
theorem jJ {l:List Int} {k:Nat} (hk:l.length<=k):er l k=qk l:=by
 unfold er qk; rw [List.take_of_length_le hk]
end Go.Proofs.YtdggohppeeaipaaGreat
namespace Go.Proofs.YtdggohppeeaipaaGreat
open Go.RowKit
end Go.Proofs.YtdggohppeeaipaaGreat
namespace Go.Proofs.YtdggohppeeaipaaGreat
open Go.RowKit
theorem sE {α:Type} [DecidableEq α] {l m:List α} (h:¬ ((l.length:Nat):Int)=((m.length:Nat):Int)):false=decide (l=m):=by
 symm; apply decide_eq_false; rintro rfl; exact h rfl
theorem lA {α:Type} [DecidableEq α] {l m:List α} {k:Nat} (hl:l.length=m.length) (h:l.take k=m.take k) (hk:l.length<=k):true=decide (l=m):=by
 symm; apply decide_eq_true
 rwa [List.take_of_length_le hk,List.take_of_length_le (by omega)] at h
def ba (n a b:Int):Bool:=decide (a<=n) && decide (n<=b)
def aw {α:Type} (key:α->Int) (most:Int):Int->List α->Bool
 | _,[]=>true
 | a,x :: r=>ba (key x) (a+1) most && aw key most (key x) r
def aW {α:Type} (key:α->Int) (a:Int) (l:List α):Int:=l.foldl (fun _ x=>key x) a
theorem dH {α:Type} {key:α->Int} {most:Int} {x:α}:∀ (p:List α) (a:Int),aw key most a (p++[x])=(aw key most a p && ba (key x) (aW key a p+1) most)
 | [],a=>by simp [aw,aW]
 | y :: p,a=>by
  rw [List.cons_append,aw,aw,dH p,Bool.and_assoc]; rfl
theorem gA {α:Type} {key:α->Int} {most:Int} (q:List α):∀ (p:List α) (a:Int),aw key most a (p++q)=true->aw key most a p=true
 | [],a,_=>rfl
 | y :: p,a,h=>by
  rw [List.cons_append,aw,Bool.and_eq_true] at h
  rw [aw,Bool.and_eq_true]
  exact ⟨h.1,gA q p _ h.2⟩
theorem bE {α:Type} {key:α->Int} {a:Int} {l:List α} {k:Nat} {x:α} (hx:l[k]? = some x):key x=aW key a (l.take (k+1)):=by
 rw [aD hx,aW,List.foldl_append]; rfl
theorem eY {α:Type} {key:α->Int} {a:Int} {l:List α} {k:Nat} {x:α} (h:0<k) (hx:l[k - 1]? = some x):aW key a (l.take k)=key x:=by
 obtain ⟨j,rfl⟩:∃ j,k=j+1:=⟨k - 1,by omega⟩
 exact (bE (by simpa using hx)).symm
theorem fS {α:Type} {key:α->Int} {most a:Int} {l:List α} {k:Nat} {x:α} (h:aw key most a (l.take k)=true) (hx:l[k]? = some x) (h1:aW key a (l.take k)<key x) (h2:key x<=most):aw key most a (l.take (k+1))=true:=by
 rw [aD hx,dH,h,Bool.true_and,ba,Bool.and_eq_true,decide_eq_true_eq,decide_eq_true_eq]
 exact ⟨by omega,h2⟩
theorem kv {α:Type} {key:α->Int} {most a:Int} {l:List α} {k:Nat} {x:α} (hx:l[k]? = some x) (h:¬ (aW key a (l.take k)<key x/\key x<=most)):aw key most a l=false:=by
 cases hr:aw key most a l with
 | false=>rfl
 | true=>
  have h1:=gA (l.drop (k+1)) (l.take (k+1)) a (by rw [List.take_append_drop]; exact hr)
  rw [aD hx,dH,Bool.and_eq_true,ba,Bool.and_eq_true,decide_eq_true_eq,decide_eq_true_eq] at h1
  exact absurd ⟨by omega,h1.2.2⟩ h
theorem fM {α:Type} {key:α->Int} {most a:Int} {l:List α} {k:Nat} (h:aw key most a (l.take k)=true) (hk:l.length<=k):aw key most a l=true:=by
 rwa [List.take_of_length_le hk] at h
def cq (l:List Int):Bool:=(decide ((1:Int)<=((l.length:Nat):Int)) && decide (((l.length:Nat):Int)<=8)) && aw id 64 0 l
theorem gr {l:List Int} {k:Nat} {x:Int} (hx:l[k]? = some x) (h:¬ (aW id 0 (l.take k)<x/\x<=64)):false=cq l:=by
 rw [cq,kv (key:=id) hx h,Bool.and_false]
theorem jD {l:List Int} {k:Nat} (h:aw id 64 0 (l.take k)=true) (hk:l.length<=k):(decide ((1:Int)<=((l.length:Nat):Int)) && decide (((l.length:Nat):Int)<=8))=cq l:=by
 rw [cq,fM h hk,Bool.and_true]
theorem wN {l:List Int} {k:Nat} (h:aw id 64 0 (l.take k)=true):0<=aW id 0 (l.take k):=by
 by_cases hk:k=0
 ·subst hk; exact Int.le_refl _
 ·by_cases hl:k - 1<l.length
  ·have hx:=List.getElem?_eq_getElem hl
   rw [eY (by omega) hx]
   have e:l.take k=l.take (k - 1)++[l[k - 1]]:=by
    have:=aD hx
    rwa [show k - 1+1=k by omega] at this
   rw [e,dH,Bool.and_eq_true,ba,Bool.and_eq_true,decide_eq_true_eq] at h
   have h0:∀ (p:List Int) (a:Int),0<=a->aw id 64 a p=true->0<=aW id a p:=by
    intro p
    induction p with
    | nil=>intro a ha _; exact ha
    | cons y p ih=>
     intro a ha hp
     rw [aw,Bool.and_eq_true,ba,Bool.and_eq_true,decide_eq_true_eq] at hp
     exact ih (id y) (by omega) hp.2
   have:=h0 _ _ (Int.le_refl 0) h.1
   omega
  ·have h0:∀ (p:List Int) (a:Int),0<=a->aw id 64 a p=true->0<=aW id a p:=by
    intro p
    induction p with
    | nil=>intro a ha _; exact ha
    | cons y p ih=>
     intro a ha hp
     rw [aw,Bool.and_eq_true,ba,Bool.and_eq_true,decide_eq_true_eq] at hp
     exact ih (id y) (by omega) hp.2
   exact h0 _ _ (Int.le_refl 0) h
theorem gO {l:List Int} {k:Nat} (h:aw id 64 0 (l.take k)=true) (hk:l.length<=k) (hl:1<=l.length/\l.length<=8):true=cq l:=by
 rw [cq,fM h hk,Bool.and_true]; symm; rw [Bool.and_eq_true,decide_eq_true_eq,decide_eq_true_eq]; omega
theorem mD {l:List Int} (hl:¬ (1<=l.length/\l.length<=8)):false=cq l:=by
 symm
 rw [cq,Bool.and_eq_false_iff]; left
 rw [Bool.and_eq_false_iff,decide_eq_false_iff_not,decide_eq_false_iff_not]; omega
end Go.Proofs.YtdggohppeeaipaaGreat
namespace Go.Proofs.YtdggohppeeaipaaGreat
open Go.RowKit
def aN (x:Sess):Bool:=(ba x.seq 0 1048576 && ba x.last.code 0 99) && ba x.last.n 0 1048576
def aM (x:Opn):Bool:=ba x.client 1 8
theorem dw {α:Type} {p:α->Bool} {l:List α} {k:Nat} {x:α} (h:(l.take k).all p=true) (hx:l[k]? = some x) (hp:p x=true):(l.take (k+1)).all p=true:=by
 rw [aD hx,List.all_append,h]; simp [hp]
theorem xA {α:Type} {p:α->Bool} {l:List α} {k:Nat} {x:α} (hx:l[k]? = some x) (hp:p x=false):l.all p=false:=by
 rw [List.all_eq_false]; exact ⟨x,List.mem_of_getElem? hx,by simp [hp]⟩
theorem zb {α:Type} {p:α->Bool} {l:List α} {k:Nat} (h:(l.take k).all p=true) (hk:l.length<=k):l.all p=true:=by
 rwa [List.take_of_length_le hk] at h
end Go.Proofs.YtdggohppeeaipaaGreat
namespace Go.Proofs.YtdggohppeeaipaaGreat
open Go.RowKit
def aX (n:Nat):Nat:=if h:n<128 then 1 else aX (n / 128)+1
termination_by n
decreasing_by omega
theorem lr {n:Nat} (h:¬ n<128):aX n=aX (n / 128)+1:=by rw [aX,dif_neg h]
theorem gV {n:Nat} (h:n<128):aX n=1:=by rw [aX,dif_pos h]
theorem gv (n:Nat):1<=aX n:=by rw [aX]; split <;> omega
theorem qQ:∀ (k n:Nat),n<128 ^ (k+1)->aX n<=k+1
 | 0,n,h=>by rw [gV (by simpa using h)]; omega
 | k+1,n,h=>by
  by_cases hn:n<128
  ·rw [gV hn]; omega
  ·rw [lr hn]
   have:=qQ k (n / 128) (by rw [Nat.div_lt_iff_lt_mul (by omega),<- Nat.pow_succ]; exact h)
   omega
theorem kZ {n:Nat} (h:n<18446744073709551616):aX n<=10:=qQ 9 n (Nat.lt_of_lt_of_le h (by decide))
def AN (n i:Nat):UInt8:=UInt8.ofNat (n / 128 ^ i) ||| 128
def dv (n k:Nat):List UInt8:=(List.range k).map (AN n)++List.replicate (aX n - k) 0
def ly (n:Nat):List UInt8:=(dv n (aX n)).set (aX n - 1) (AN n (aX n - 1) &&& 127)
theorem eW {n k:Nat} (h:k<=aX n):(dv n k).length=aX n:=by simp [dv]; omega
theorem tC {n k:Nat} (h:k<aX n):(dv n k).set k (AN n k)=dv n (k+1):=by
 unfold dv
 rw [List.set_append_right _ _ (by simp),List.range_succ,List.map_append,List.append_assoc]
 congr 1
 obtain ⟨j,hj⟩:∃ j,aX n - k=j+1:=⟨aX n - k - 1,by omega⟩
 rw [hj,show aX n - (k+1)=j by omega]
 simp [List.replicate_succ]
theorem gE (n:Nat):List.replicate (aX n) (0:UInt8)=dv n 0:=by simp [dv]
theorem tg {n:Nat} {x:UInt8} (h:(dv n (aX n))[aX n - 1]? = some x):x=AN n (aX n - 1):=by
 have hp:=gv n
 unfold dv at h
 rw [List.getElem?_append_left (by simp; omega)] at h
 simp only [List.getElem?_map,List.getElem?_range (show aX n - 1<aX n by omega),Option.map_some,Option.some.injEq] at h
 exact h.symm
theorem div_pow {n k:Nat}:n / 128 ^ k / 2 ^ 7=n / 128 ^ (k+1):=by show n / 128 ^ k / 128=_; rw [Nat.div_div_eq_div_mul,Nat.pow_succ]
theorem yF (n:Nat):(ly n).length=aX n:=by rw [ly,List.length_set,eW (Nat.le_refl _)]
theorem mz {n:Nat} (h:n<18446744073709551616):(ly n).length<=10:=by rw [yF]; exact kZ h
def dW (l:List Int):List UInt8:=l.flatMap fun x=>ly x.toNat
theorem jH {l:List Int} {k:Nat} {x:Int} (hx:l[k]? = some x):dW (l.take k)++ly x.toNat=dW (l.take (k+1)):=by
 rw [aD hx]; simp [dW]
theorem xv {l:List Int} (h:∀ x ∈ l,x<=64):(dW l).length<=10*l.length:=by
 induction l with
 | nil=>simp [dW]
 | cons a l ih=>
  have h1:=ih fun x hx=>h x (List.mem_cons_of_mem _ hx)
  have h2:=mz (n:=a.toNat) (by have:=h a (by simp); omega)
  simp only [dW,List.flatMap_cons,List.length_append,List.length_cons] at *
  omega
theorem sr {l:List Int} (h:cq l=true):∀ x ∈ l,0<x/\x<=64:=by
 rw [cq,Bool.and_eq_true] at h
 have:∀ (l:List Int) (a:Int),0<=a->aw id 64 a l=true->∀ x ∈ l,0<x/\x<=64:=by
  intro l
  induction l with
  | nil=>intro a _ _ x hx; cases hx
  | cons y l ih=>
   intro a ha hl x hx
   rw [aw,Bool.and_eq_true,ba,Bool.and_eq_true,decide_eq_true_eq,decide_eq_true_eq] at hl
   have h1:a+1<=y:=hl.1.1
   have h2:y<=64:=hl.1.2
   rcases List.mem_cons.1 hx with rfl | hx
   ·omega
   ·exact ih (id y) (by show 0<=y; omega) hl.2 x hx
 exact this l 0 (by omega) h.2
theorem uI {l:List Int} (h:cq l=true):1<=l.length/\l.length<=8:=by
 rw [cq,Bool.and_eq_true,Bool.and_eq_true,decide_eq_true_eq,decide_eq_true_eq] at h
 omega
def fi (l:List Int):List UInt8:=if cq l then dW l else []
def cR (l:List Int):Int:=if cq l then 0 else 1
theorem lC {l:List Int} {k:Nat} (hr:cq l=true) (hk:l.length<=k):dW (l.take k)=fi l:=by rw [List.take_of_length_le hk,fi,if_pos hr]
theorem jL {l:List Int} (hr:cq l=false):[]=fi l:=by rw [fi,hr]; rfl
theorem fK {l:List Int} (hr:cq l=true):0=cR l:=by rw [cR,hr]; rfl
theorem fk {l:List Int} (hr:cq l=false):1=cR l:=by rw [cR,hr]; rfl
end Go.Proofs.YtdggohppeeaipaaGreat
namespace Go.Proofs.YtdggohppeeaipaaGreat
open Go.RowKit
def bl (v t:Int) (x:Snap):Bool:=((decide (cR x.chunks=0) && ba x.set 1 8) && (!x.held || decide (2<=v))) && decide (((x.tag.b.length:Nat):Int)<=t)
def eE (v:Int):Int:=if v<3 then 0 else 16
def cK (s:State) (v:Int):Bool:=!(decide (16<((s.snaps.length:Nat):Int)) || !(aw Snap.id (s.next - 1) 0 s.snaps)) && s.snaps.all (bl v (eE v))
def bR (s:State) (v:Int):Bool:=((ba s.version 1 3 && ba s.next 1 1048576) && ba s.keep 0 8) && ba s.quota 0 (if v<3 then 0 else 64)
def iU (s:State):Bool:=aw Sess.client 8 0 s.sess && s.sess.all aN
def fO (s:State):Bool:=aw Opn.set 8 0 s.opens && s.opens.all aM
def mayF (s:State) (v:Int):Int:=if !(ba v 1 3) then 1 else if (((!bR s v || !iU s) || !fO s) || !cK s v) then 6 else 0
end Go.Proofs.YtdggohppeeaipaaGreat
namespace Go.Proofs.YtdggohppeeaipaaGreat
open Go.RowKit
theorem Hu {s:State} {v:Int} (h:(!(ba v 1 3))=true):1=mayF s v:=by rw [mayF,if_pos h]
end Go.Proofs.YtdggohppeeaipaaGreat
namespace Go.Proofs.YtdggohppeeaipaaGreat
open Go.RowKit
def dK (next v:Int) (x:Snap):Bool:=((((cq x.chunks && ba x.id 1 (IntKind.i64.wrap (next - 1))) && ba x.set 1 8) && (!x.held || decide (2<=v))) && decide (((x.tag.b.length:Nat):Int)<=16)) && (decide (x.tag=⟨[]⟩) || decide (3<=v))
def aS {α:Type} (p:α->Bool) (key:α->Int) (most:Int) (l:List α):Bool:=aw key most 0 l && l.all p
def iG (s:State) (v:Int):Bool:=((((((decide ((1:Int)<=s.version)) && (decide (s.version<=(3:Int)))) && ((decide ((1:Int)<=s.next)) && (decide (s.next<=(1048576:Int))))) && ((decide ((0:Int)<=s.keep)) && (decide (s.keep<=(8:Int))))) && ((decide ((0:Int)<=s.quota)) && (decide (s.quota<=(64:Int))))) && (decide (s.quota=(0:Int)) || decide ((3:Int)<=v))) && decide (((s.snaps.length:Nat):Int)<=(16:Int))
theorem jM {α:Type} {p:α->Bool} {key:α->Int} {most:Int} {l:List α} {k:Nat} {x:α} (hx:l[k]? = some x):aS p key most (l.take (k+1))=(aS p key most (l.take k) && (ba (key x) 1 most && p x) && (decide (((k:Nat):Int)=(0:Int)) || decide (aW key 0 (l.take k)<key x))):=by
 unfold aS
 rw [aD hx,dH,List.all_append]
 have e:ba (key x) (aW key 0 (l.take k)+1) most=true↔(aW key 0 (l.take k)<key x/\key x<=most):=by
  unfold ba; rw [Bool.and_eq_true,decide_eq_true_eq,decide_eq_true_eq]; omega
 have e1:ba (key x) 1 most=true↔(1<=key x/\key x<=most):=by
  unfold ba; rw [Bool.and_eq_true,decide_eq_true_eq,decide_eq_true_eq]
 have hp:∀ (q:List α) (a:Int),0<=a->aw key most a q=true->q≠[]->1<=aW key a q:=by
  intro q
  induction q with
  | nil=>intro a _ _ h; exact absurd rfl h
  | cons y q ih=>
   intro a ha hq _
   rw [aw,Bool.and_eq_true,ba,Bool.and_eq_true,decide_eq_true_eq] at hq
   cases q with
   | nil=>show 1<=key y; omega
   | cons z q=>exact ih (key y) (by omega) hq.2 (by simp)
 cases hr:aw key most 0 (l.take k) with
 | false=>simp
 | true=>
  by_cases hk:k=0
  ·subst hk
   have h0:aW key 0 (l.take 0)=0:=rfl
   have e2:ba (key x) (aW key 0 (l.take 0)+1) most=ba (key x) 1 most:=by rw [h0]; rfl
   rw [e2]; simp
  ·have hne:l.take k≠[]:=by
    intro h
    have h3:(l.take k).length=0:=by rw [h]; rfl
    have h2:=sk hx
    rw [List.length_take] at h3
    omega
   have h1:=hp _ _ (Int.le_refl 0) hr hne
   have e3:ba (key x) (aW key 0 (l.take k)+1) most=(ba (key x) 1 most && decide (aW key 0 (l.take k)<key x)):=by
    rw [Bool.eq_iff_iff,Bool.and_eq_true,e,e1,decide_eq_true_eq]; omega
   have e4:decide (((k:Nat):Int)=(0:Int))=false:=decide_eq_false (by omega)
   rw [e3,e4]
   cases ba (key x) 1 most <;> cases decide (aW key 0 (l.take k)<key x) <;> cases (l.take k).all p <;> cases hpx:p x <;> simp [hpx]
end Go.Proofs.YtdggohppeeaipaaGreat
namespace Go.Proofs.YtdggohppeeaipaaGreat
open Go.RowKit
theorem vE {B:Bool} {l:List Sess} {k:Nat} {x:Sess} (hx:l[k]? = some x):(B && aS aN Sess.client 8 (l.take (k+1)))=(((((((B && aS aN Sess.client 8 (l.take k)) && ((decide ((1:Int)<=x.client)) && (decide (x.client<=(8:Int))))) && ((decide ((0:Int)<=x.seq)) && (decide (x.seq<=(1048576:Int))))) && ((decide ((0:Int)<=x.last.code)) && (decide (x.last.code<=(99:Int))))) && ((decide ((0:Int)<=x.last.n)) && (decide (x.last.n<=(1048576:Int)))))) && (decide (((k:Nat):Int)=(0:Int)) || decide (aW Sess.client 0 (l.take k)<x.client))):=by
 rw [jM hx]
 show (B && (_ && (((decide ((1:Int)<=x.client)) && (decide (x.client<=(8:Int)))) && ((((decide ((0:Int)<=x.seq)) && (decide (x.seq<=(1048576:Int)))) && ((decide ((0:Int)<=x.last.code)) && (decide (x.last.code<=(99:Int))))) && ((decide ((0:Int)<=x.last.n)) && (decide (x.last.n<=(1048576:Int)))))) && _))=_
 cases B <;> cases aS aN Sess.client 8 (l.take k) <;> cases ((decide ((1:Int)<=x.client)) && (decide (x.client<=(8:Int)))) <;> cases ((decide ((0:Int)<=x.seq)) && (decide (x.seq<=(1048576:Int)))) <;> cases ((decide ((0:Int)<=x.last.code)) && (decide (x.last.code<=(99:Int)))) <;> cases ((decide ((0:Int)<=x.last.n)) && (decide (x.last.n<=(1048576:Int)))) <;> rfl
theorem vk {B:Bool} {l:List Opn} {k:Nat} {x:Opn} (hx:l[k]? = some x):(B && aS aM Opn.set 8 (l.take (k+1)))=((((B && aS aM Opn.set 8 (l.take k)) && ((decide ((1:Int)<=x.set)) && (decide (x.set<=(8:Int))))) && ((decide ((1:Int)<=x.client)) && (decide (x.client<=(8:Int))))) && (decide (((k:Nat):Int)=(0:Int)) || decide (aW Opn.set 0 (l.take k)<x.set))):=by
 rw [jM hx]
 show (B && (_ && (((decide ((1:Int)<=x.set)) && (decide (x.set<=(8:Int)))) && ((decide ((1:Int)<=x.client)) && (decide (x.client<=(8:Int))))) && _))=_
 cases B <;> cases aS aM Opn.set 8 (l.take k) <;> cases ((decide ((1:Int)<=x.set)) && (decide (x.set<=(8:Int)))) <;> cases ((decide ((1:Int)<=x.client)) && (decide (x.client<=(8:Int)))) <;> rfl
def cu (s:State) (v:Int) (l:List Snap):Bool:=aS (dK s.next v) Snap.id (IntKind.i64.wrap (s.next - 1)) l
theorem gf {B:Bool} {s:State} {v:Int} {l:List Snap} {k:Nat} {x:Snap} (hx:l[k]? = some x):(B && cu s v (l.take (k+1)))=(((B && cu s v (l.take k)) && dK s.next v x) && (decide (((k:Nat):Int)=(0:Int)) || decide (aW Snap.id 0 (l.take k)<x.id))):=by
 unfold cu
 rw [jM hx]
 have e:(ba x.id 1 (IntKind.i64.wrap (s.next - 1)) && dK s.next v x)=dK s.next v x:=by
  unfold dK
  cases ba x.id 1 (IntKind.i64.wrap (s.next - 1)) <;> simp
 rw [e]
 cases B <;> cases aS (dK s.next v) Snap.id (IntKind.i64.wrap (s.next - 1)) (l.take k) <;> cases dK s.next v x <;> rfl
theorem gX {α:Type} {key:α->Int} {most:Int}:∀ {l:List α} {a:Int},0<=a->aw key most a l=true->∀ x ∈ l,1<=key x/\key x<=most
 | [],_,_,_,x,hx=>by cases hx
 | y :: l,a,ha,h,x,hx=>by
  rw [aw,Bool.and_eq_true,ba,Bool.and_eq_true,decide_eq_true_eq,decide_eq_true_eq] at h
  rcases List.mem_cons.1 hx with rfl | hx
  ·omega
  ·exact gX (by omega) h.2 x hx
theorem Cq {z:Int} (h:I64 z):IntKind.i64.wrap z=z:=I64.wrap h
theorem DY {v:Int} {x:Snap}:(decide (((x.tag.b.length:Nat):Int)<=16) && (decide (x.tag=⟨[]⟩) || decide (3<=v)))=decide (((x.tag.b.length:Nat):Int)<=eE v):=by
 have e:x.tag=⟨[]⟩↔x.tag.b.length=0:=by
  constructor
  ·intro h; rw [h]; rfl
  ·intro h; cases hx:x.tag with | mk b=>rw [hx] at h; simp at h; rw [h]
 rw [Bool.eq_iff_iff,Bool.and_eq_true,Bool.or_eq_true,decide_eq_true_eq,decide_eq_true_eq,decide_eq_true_eq,decide_eq_true_eq,e,eE]
 split <;> omega
theorem td (l:List Int):decide (cR l=0)=cq l:=by
 unfold cR; cases cq l <;> rfl
theorem pT {next v:Int} {x:Snap} (hw:IntKind.i64.wrap (next - 1)=next - 1) (h:1<=x.id/\x.id<=next - 1):dK next v x=bl v (eE v) x:=by
 have e:ba x.id 1 (next - 1)=true:=by rw [ba,Bool.and_eq_true,decide_eq_true_eq,decide_eq_true_eq]; exact h
 unfold dK bl
 rw [hw,e,td,<- DY]
 cases cq x.chunks <;> cases ba x.set 1 8 <;> cases (!x.held || decide (2<=v)) <;> simp
theorem xl {q v:Int}:(((decide ((0:Int)<=q)) && (decide (q<=(64:Int)))) && (decide (q=(0:Int)) || decide ((3:Int)<=v)))=ba q 0 (if v<3 then 0 else 64):=by
 rw [Bool.eq_iff_iff,ba]
 simp only [Bool.and_eq_true,Bool.or_eq_true,decide_eq_true_eq]
 split <;> omega
theorem GP {s:State} {v:Int} {k k2 k3:Nat} (h1:s.sess.length<=k) (h2:s.opens.length<=k2) (h3:s.snaps.length<=k3) :
  (((iG s v && aS aN Sess.client 8 (s.sess.take k)) && aS aM Opn.set 8 (s.opens.take k2)) && cu s v (s.snaps.take k3)) = !(((!bR s v || !iU s) || !fO s) || !cK s v):=by
 rw [List.take_of_length_le h1,List.take_of_length_le h2,List.take_of_length_le h3]
 have e0:iG s v=(bR s v && decide (((s.snaps.length:Nat):Int)<=(16:Int))):=by
  unfold iG bR
  rw [<- xl]
  show ((((_ && ba s.next 1 1048576) && _) && _) && _ && _)=_
  simp only [ba,Bool.and_assoc]
 have e1:aS aN Sess.client 8 s.sess=iU s:=rfl
 have e2:aS aM Opn.set 8 s.opens=fO s:=rfl
 rw [e0,e1,e2]
 cases hn:bR s v with
 | false=>simp
 | true=>
  have hnx:1<=s.next/\s.next<=1048576:=by
   unfold bR at hn
   simp only [Bool.and_eq_true,ba,decide_eq_true_eq] at hn
   exact hn.1.1.2
  have hw:IntKind.i64.wrap (s.next - 1)=s.next - 1:=Cq ⟨by omega,by omega⟩
  have e3:(decide (((s.snaps.length:Nat):Int)<=(16:Int)) && cu s v s.snaps)=cK s v:=by
   unfold cu aS cK
   rw [hw]
   have ed:decide (16<((s.snaps.length:Nat):Int)) = !decide (((s.snaps.length:Nat):Int)<=(16:Int)):=by
    rw [<- decide_not,Bool.eq_iff_iff,decide_eq_true_eq,decide_eq_true_eq]; omega
   rw [ed]
   cases hr:aw Snap.id (s.next - 1) 0 s.snaps with
   | false=>simp
   | true=>
    have:s.snaps.all (dK s.next v)=s.snaps.all (bl v (eE v)):=by
     rw [Bool.eq_iff_iff,List.all_eq_true,List.all_eq_true]
     constructor
     ·intro h x hx; rw [<- pT hw (gX (Int.le_refl 0) hr x hx)]; exact h x hx
     ·intro h x hx; rw [pT hw (gX (Int.le_refl 0) hr x hx)]; exact h x hx
    rw [this]
    cases decide (((s.snaps.length:Nat):Int)<=(16:Int)) <;> simp
  rw [<- e3]
  cases iU s <;> cases fO s <;> cases decide (((s.snaps.length:Nat):Int)<=(16:Int)) <;> cases cu s v s.snaps <;> rfl
theorem GK {s:State} {v:Int} {k k2 k3:Nat} (hv:(!(ba v 1 3))=false) (h1:s.sess.length<=k) (h2:s.opens.length<=k2) (h3:s.snaps.length<=k3)
  (h:(!(((iG s v && aS aN Sess.client 8 (s.sess.take k)) && aS aM Opn.set 8 (s.opens.take k2)) && cu s v (s.snaps.take k3)))=true):6=mayF s v:=by
 rw [GP h1 h2 h3,Bool.not_not] at h
 rw [mayF,hv,if_neg (by decide),if_pos h]
theorem Gs {s:State} {v:Int} {k k2 k3:Nat} (hv:(!(ba v 1 3))=false) (h1:s.sess.length<=k) (h2:s.opens.length<=k2) (h3:s.snaps.length<=k3)
  (h:(!(((iG s v && aS aN Sess.client 8 (s.sess.take k)) && aS aM Opn.set 8 (s.opens.take k2)) && cu s v (s.snaps.take k3)))=false):0=mayF s v:=by
 rw [GP h1 h2 h3,Bool.not_not] at h
 rw [mayF,hv,if_neg (by decide),h,if_neg (by decide)]
end Go.Proofs.YtdggohppeeaipaaGreat
namespace Go.Proofs.YtdggohppeeaipaaGreat
open Go.RowKit
def kb (k:Int):Int:=qH 0 k [((1:Int),(1:Int)),((2:Int),(1:Int)),((3:Int),(1:Int)),((4:Int),(1:Int)),((5:Int),(1:Int)),((6:Int),(1:Int)),((7:Int),(1:Int)),((8:Int),(1:Int)),((9:Int),(2:Int)),((10:Int),(2:Int)),((11:Int),(3:Int)),((12:Int),(3:Int))]
theorem nO {n a b:Int} (h:ba n a b=true):a<=n/\n<=b:=by unfold ba at h; rw [Bool.and_eq_true,decide_eq_true_eq,decide_eq_true_eq] at h; exact h
theorem Is {n a b:Int} (h:ba n a b=false):¬ (a<=n/\n<=b):=fun h2=>by
 have:ba n a b=true:=by unfold ba; rw [Bool.and_eq_true,decide_eq_true_eq,decide_eq_true_eq]; exact h2
 rw [h] at this; cases this
def eT (x:Int) (l:List Int):Int:=match l.findIdx? (fun y=>decide (x=y)) with | some i=>(i:Int) | none=>-1
theorem y_ {x y:Int} {l:List Int} {k:Nat} (h:∀ j y,j<k->l[j]? = some y->¬ x=y) (hy:l[k]? = some y) (hxy:x=y):(k:Int)=eT x l:=by
 have:l.findIdx? (fun y=>decide (x=y))=some k:=by
  obtain ⟨hk,rfl⟩:=List.getElem?_eq_some_iff.1 hy
  rw [List.findIdx?_eq_some_iff_getElem]
  exact ⟨hk,decide_eq_true hxy,fun j hj=>by simpa using h j _ hj (List.getElem?_eq_getElem (by omega))⟩
 simp [eT,this]
theorem uJ (x:Int) (l:List Int):decide (0<=eT x l)=l.contains x:=by
 unfold eT
 cases h:l.findIdx? (fun y=>decide (x=y)) with
 | none=>
  rw [List.findIdx?_eq_none_iff] at h
  have:l.contains x=false:=by
   rw [<- Bool.not_eq_true,List.contains_iff_mem]
   intro hm; have:=h x hm; simp at this
  rw [this]; rfl
 | some i=>
  rw [List.findIdx?_eq_some_iff_getElem] at h
  obtain ⟨hi,hp,_⟩:=h
  have:l.contains x=true:=by
   rw [List.contains_iff_mem,of_decide_eq_true hp]; exact List.getElem_mem hi
  rw [this]; simp
def h_ (n most:Int) (named:Bool):Bool:=if named then (decide (1<=n) && decide (n<=most)) else decide (n=0)
def me (k:Int):Int × Int:=qH (0,0) k [((6:Int),((0:Int),(8:Int))),((8:Int),((2:Int),(3:Int))),((12:Int),((0:Int),(64:Int)))]
def HL (c:Command):Bool:=if c.kind=3 then cq c.chunks else decide (((c.chunks.length:Nat):Int)=0)
def HI (c:Command):Bool:=if c.kind=11 then decide (((c.text.b.length:Nat):Int)<=16) else decide (c.text=⟨[]⟩)
def gz (c:Command):Bool:=((((((((decide ((me c.kind).1<=c.n) && decide (c.n<=(me c.kind).2)) && HL c) && HI c) && h_ c.client 8 (!([(8:Int)].contains c.kind))) && h_ c.seq 1048576 (!([(1:Int),8].contains c.kind))) && h_ c.set 8 ([(2:Int),3,4].contains c.kind)) && h_ c.id 1048576 ([(5:Int),7,9,10,11].contains c.kind)))
def bZ (c:Command) (v:Int):Int:=if !(ba v 1 3) || decide (kb c.kind=0) then 1 else if v<kb c.kind then 10 else if !gz c then 1 else 0
end Go.Proofs.YtdggohppeeaipaaGreat
namespace Go.Proofs.YtdggohppeeaipaaGreat
open Go.RowKit
end Go.Proofs.YtdggohppeeaipaaGreat
namespace Go.Proofs.YtdggohppeeaipaaGreat
open Go.RowKit
end Go.Proofs.YtdggohppeeaipaaGreat
namespace Go.Proofs.YtdggohppeeaipaaGreat
open Go.RowKit
def ju (k:Int):Bool:=decide (1<=k) && decide (k<=3)
theorem uv {α:Type} {a b:List α} {k:Nat} {d:α} (h:a.take k=b.take k) (ha:k<a.length) (hb:k<b.length) (e:a.getD k d=b.getD k d):a.take (k+1)=b.take (k+1):=by
 have h1:a[k]? = some (a.getD k d):=by rw [List.getD_eq_getElem?_getD,List.getElem?_eq_getElem ha]; rfl
 have h2:b[k]? = some (b.getD k d):=by rw [List.getD_eq_getElem?_getD,List.getElem?_eq_getElem hb]; rfl
 rw [aD h1,aD h2,h,e]
theorem rz {s:Str} {n:Nat} (h:(s.b.length:Int)<=n):s=⟨s.b.take n⟩:=by
 cases s; rw [List.take_of_length_le (by simpa using h)]
theorem Fq {l:List Int} {k:Nat} {x:Int} (hx:l[k]? = some x):x=aW id 0 (l.take (k+1)):=bE (key:=id) hx
theorem yn {l:List Int} {k:Nat} {x:Int} (h:aw id 64 0 (l.take k)=true) (hx:l[k]? = some x) (h1:aW id 0 (l.take k)<x) (h2:x<=64):aw id 64 0 (l.take (k+1))=true:=fS (key:=id) h hx (by dsimp only [id]; omega) (by dsimp only [id]; omega)
def FU (l:List Int):List (Nat × LI):=[(5,{ σ:=Nat,F:=fun k=>([(3,one (.int (aW id 0 (l.take k)))),(14,one (.fz .int (l))),(15,one (.int (l).length)),(16,one (.int k))],[]),J:=fun k=>k<=l.length/\aw id 64 0 (l.take k)=true/\1<=l.length/\l.length<=8,μ:=fun k=>(l).length - k })]
def Db (a:List Int) (b:List Int):List (Nat × LI):=[(4,{ σ:=Nat,F:=fun k=>([(0,one (.fz .int (a))),(1,one (.fz .int (b))),(5,one (.int k))],[]),J:=fun k=>k<=a.length/\a.length=b.length/\a.take k=b.take k,μ:=fun k=>a.length - k })]
theorem Be (k:Int) (r0:Bool):cN aF im [] Tryz.f120 [.c (.int (k))] [] [.c (.bool (.atom (r0)))]=(I64 k->(decide ((1:Int)<=k) && decide (k<=(3:Int)))=r0):=by kernel_rfl
theorem AQ (k:Int):Sat Tryz.prog (aq aF) 120 [.c (.int (k))] [] ⟨[],[.c (.bool (.atom ((ju k))))],none,false⟩:=by
 refine aR cP [] Tryz.func120 (by decide) (by kernel_rfl) ?_
 rw [Be]
 grind [ju]
theorem Gf (l:List Int) (r0:Bool):cN aF im (FU l) Tryz.f140 [.c (.fz .int (l))] [] [.c (.bool (.atom (r0)))]=((fun (q3:Int)=>(fun (q2:Int)=>(fun (q1:Nat)=>(fun (q0:Prop)=>l.length*(8:Nat)<=(140737488355328:Nat)->(q3<(1:Int)\/(8:Int)<q3->false=r0)/\((1:Int)<=q3/\q3<=(8:Int)->∃ (s0:Nat),(q2=aW id q2 (List.take s0 l)/\l=l/\q3=(↑q1:Int)/\q2=(↑s0:Int))/\(s0<=q1/\aw id (64:Int) q2 (List.take s0 l)=true/\q0)/\∀ (s:Nat),s<=q1/\aw id (64:Int) q2 (List.take s l)=true/\q0->((↑s:Int)<(↑q1:Int)->q2<=(↑s:Int)/\(↑s:Int)<q3/\∀ (x:Int),l[s]? = some x->I64 x->(x<=aW id q2 (List.take s l)\/(64:Int)<x->false=r0)/\(aW id q2 (List.take s l)<x/\x<=(64:Int)->I64 ((↑s:Int)+(1:Int))/\∃ (s':Nat),(x=aW id q2 (List.take s' l)/\l=l/\(↑q1:Int)=(↑q1:Int)/\(↑s:Int)+(1:Int)=(↑s':Int))/\(s' <= q1/\aw id (64:Int) q2 (List.take s' l)=true/\q0)/\q1 - s' < q1 - s))/\((↑q1:Int)<=(↑s:Int)->true=r0))) ((1:Nat)<=q1/\q1<=(8:Nat))) l.length) (0:Int)) (↑l.length:Int)):=by kernel_rfl
theorem GO (l:List Int):Sat Tryz.prog (aq aF) 140 [.c (.fz .int (l))] [] ⟨[],[.c (.bool (.atom ((cq l))))],none,false⟩:=by
 refine aR cP (FU l) Tryz.func140 (by decide) (by kernel_rfl) ?_
 rw [Gf]
 (repeat' (first | refine And.intro ?_ ?_ | intro))
 all_goals try (grind [mD,gr,gO,Fq,yn,aw,aW])
 all_goals (refine ⟨0,?_⟩; (repeat' (first | refine And.intro ?_ ?_ | intro)))
 all_goals try (grind [mD,gr,gO,Fq,yn,aw,aW])
 all_goals (refine ⟨‹Nat› + 1,?_⟩; (repeat' (first | refine And.intro ?_ ?_ | intro)))
 all_goals grind [mD,gr,gO,Fq,yn,aw,aW]
theorem EO (a:List Int) (b:List Int) (r0:Bool):cN aF im (Db a b) Tryz.f130 [.c (.fz .int (a)),.c (.fz .int (b))] [] [.c (.bool (.atom (r0)))]=((fun (q1:Nat)=>(fun (q0:Int)=>a.length*(8:Nat)<=(140737488355328:Nat)->b.length*(8:Nat)<=(140737488355328:Nat)->(¬q0=(↑b.length:Int)->false=r0)/\(q0=(↑b.length:Int)->∃ (s0:Nat),(a=a/\b=b/\(0:Int)=(↑s0:Int))/\(s0<=q1/\q1=b.length/\List.take s0 a=List.take s0 b)/\∀ (s:Nat),(fun (q2:Prop)=>s<=q1/\q1=b.length/\List.take s a=List.take s b->((↑s:Int)<q0->(0:Int)<=(↑s:Int)/\(↑s:Int)<q0/\(0:Int)<=(↑s:Int)/\(↑s:Int)<(↑b.length:Int)/\(I64 (a.getD s (dflt Sh.int))->I64 (b.getD s (dflt Sh.int))->(¬q2->false=r0)/\(q2->I64 ((↑s:Int)+(1:Int))/\∃ (s':Nat),(a=a/\b=b/\(↑s:Int)+(1:Int)=(↑s':Int))/\(s' <= q1/\q1=b.length/\List.take s' a=List.take s' b)/\q1 - s' < q1 - s)))/\(q0<=(↑s:Int)->true=r0)) (a.getD s (dflt Sh.int)=b.getD s (dflt Sh.int)))) (↑a.length:Int)) a.length):=by kernel_rfl
theorem DG (a:List Int) (b:List Int):Sat Tryz.prog (aq aF) 130 [.c (.fz .int (a)),.c (.fz .int (b))] [] ⟨[],[.c (.bool (.atom ((decide (a=b)))))],none,false⟩:=by
 refine aR cP (Db a b) Tryz.func130 (by decide) (by kernel_rfl) ?_
 rw [EO]
 (repeat' (first | refine And.intro ?_ ?_ | intro))
 all_goals try (grind [aD])
 all_goals (refine ⟨0,?_⟩; (repeat' (first | refine And.intro ?_ ?_ | intro)))
 all_goals try (grind [aD])
 all_goals (refine ⟨‹Nat› + 1,?_⟩; (repeat' (first | refine And.intro ?_ ?_ | intro)))
 all_goals first | exact uv (by grind) (by omega) (by omega) (by with_reducible assumption) | grind
theorem Ez (x:Int) (r0:Int):cN aF im [] Tryz.f119 [.c (.int (x))] [] [.c (.int (r0))]=((fun (q0:Option (den Sh.int))=>I64 x->((fun (j:Int)=>if j=(12:Int) then some (3:Int) else (fun (j:Int)=>if j=(11:Int) then some (3:Int) else (fun (j:Int)=>if j=(10:Int) then some (2:Int) else (fun (j:Int)=>if j=(9:Int) then some (2:Int) else (fun (j:Int)=>if j=(8:Int) then q0 else (fun (j:Int)=>if j=(7:Int) then q0 else (fun (j:Int)=>if j=(6:Int) then q0 else (fun (j:Int)=>if j=(5:Int) then q0 else (fun (j:Int)=>if j=(4:Int) then q0 else (fun (j:Int)=>if j=(3:Int) then q0 else (fun (j:Int)=>if j=(2:Int) then q0 else (fun (j:Int)=>if j=(1:Int) then q0 else (fun (_:Int)=>none) j) j) j) j) j) j) j) j) j) j) j) j) x).getD (dflt Sh.int)=r0) (some (1:Int))):=by kernel_rfl
theorem ED (x:Int):Sat Tryz.prog (aq aF) 119 [.c (.int (x))] [] ⟨[],[.c (.int ((kb x)))],none,false⟩:=by
 refine aR cP [] Tryz.func119 (by decide) (by kernel_rfl) ?_
 rw [Ez]
 intro _
 simp only [kb,qH]
 by_cases h:1<=x/\x<=12
 ·have h2:x=1\/x=2\/x=3\/x=4\/x=5\/x=6\/x=7\/x=8\/x=9\/x=10\/x=11\/x=12:=by omega
  rcases h2 with rfl | rfl | rfl | rfl | rfl | rfl | rfl | rfl | rfl | rfl | rfl | rfl <;> rfl
 ·have h1:¬ x=1:=by omega
  have h2:¬ x=2:=by omega
  have h3:¬ x=3:=by omega
  have h4:¬ x=4:=by omega
  have h5:¬ x=5:=by omega
  have h6:¬ x=6:=by omega
  have h7:¬ x=7:=by omega
  have h8:¬ x=8:=by omega
  have h9:¬ x=9:=by omega
  have h10:¬ x=10:=by omega
  have h11:¬ x=11:=by omega
  have h12:¬ x=12:=by omega
  simp [h1,h2,h3,h4,h5,h6,h7,h8,h9,h10,h11,h12,dflt]
theorem Gu (s:Span) (k:Int) (r0:Bool):cN aF im [] Tryz.f139 [.agg (cellsOf (.nm .span) s),.c (.int (k))] [] [.c (.bool (.atom (r0)))]=(I64 s.lo->I64 s.hi->I64 k->(decide (s.lo<=k) && decide (k<=s.hi))=r0):=by kernel_rfl
theorem FY (s:Span) (k:Int):Sat Tryz.prog (aq aF) 139 [.agg (cellsOf (.nm .span) s),.c (.int (k))] [] ⟨[],[.c (.bool (.atom ((decide (s.lo<=k) && decide (k<=s.hi)))))],none,false⟩:=by
 refine aR cP [] Tryz.func139 (by decide) (by kernel_rfl) ?_
 rw [Gu]
 grind
theorem zf (n:Int) (a:Int) (b:Int) (r0:Bool):cN aF im [] Tryz.f110 [.c (.int (n)),.c (.int (a)),.c (.int (b))] [] [.c (.bool (.atom (r0)))]=(I64 n->I64 a->I64 b->(decide (a<=n) && decide (n<=b))=r0):=by kernel_rfl
theorem yP (n:Int) (a:Int) (b:Int):Sat Tryz.prog (aq aF) 110 [.c (.int (n)),.c (.int (a)),.c (.int (b))] [] ⟨[],[.c (.bool (.atom ((ba n a b))))],none,false⟩:=by
 refine aR cP [] Tryz.func110 (by decide) (by kernel_rfl) ?_
 rw [zf]
 grind [ba]
theorem Gb (n:Int) (a:Int) (b:Int) (r0:Bool):cN aF im [] Tryz.f67 [.c (.int (n)),.c (.int (a)),.c (.int (b))] [] [.c (.bool (.atom (r0)))]=(I64 n->I64 a->I64 b->(decide (a<=n) && decide (n<=b))=r0):=by kernel_rfl
theorem Gq (n:Int) (a:Int) (b:Int):Sat Tryz.prog (aq aF) 67 [.c (.int (n)),.c (.int (a)),.c (.int (b))] [] ⟨[],[.c (.bool (.atom ((ba n a b))))],none,false⟩:=by
 refine aR cP [] Tryz.func67 (by decide) (by kernel_rfl) ?_
 rw [Gb]
 grind [ba]
theorem GG (n:Int) (a:Int) (b:Int) (r0:Bool):cN aF im [] Tryz.f69 [.c (.int (n)),.c (.int (a)),.c (.int (b))] [] [.c (.bool (.atom (r0)))]=(I64 n->I64 a->I64 b->(decide (a<=n) && decide (n<=b))=r0):=by kernel_rfl
theorem GI (n:Int) (a:Int) (b:Int):Sat Tryz.prog (aq aF) 69 [.c (.int (n)),.c (.int (a)),.c (.int (b))] [] ⟨[],[.c (.bool (.atom ((ba n a b))))],none,false⟩:=by
 refine aR cP [] Tryz.func69 (by decide) (by kernel_rfl) ?_
 rw [GG]
 grind [ba]
theorem tk (x:Sess) (r0:Int):cN aF im [] Tryz.f86 [.agg (cellsOf (.nm .sess) x)] [] [.c (.int (r0))]=(I64 x.client->I64 x.seq->I64 x.last.code->I64 x.last.n->x.client=r0):=by kernel_rfl
theorem sZ (x:Sess):Sat Tryz.prog (aq aF) 86 [.agg (cellsOf (.nm .sess) x)] [] ⟨[],[.c (.int ((x.client)))],none,false⟩:=by
 refine aR cP [] Tryz.func86 (by decide) (by kernel_rfl) ?_
 rw [tk]
 grind
theorem CD (x:Opn) (r0:Int):cN aF im [] Tryz.f115 [.agg (cellsOf (.nm .opn) x)] [] [.c (.int (r0))]=(I64 x.set->I64 x.client->x.set=r0):=by kernel_rfl
theorem Co (x:Opn):Sat Tryz.prog (aq aF) 115 [.agg (cellsOf (.nm .opn) x)] [] ⟨[],[.c (.int ((x.set)))],none,false⟩:=by
 refine aR cP [] Tryz.func115 (by decide) (by kernel_rfl) ?_
 rw [CD]
 grind
theorem Eo (x:Snap) (r0:Int):cN aF im [] Tryz.f90 [.agg (cellsOf (.nm .snap) x)] [] [.c (.int (r0))]=(I64 x.id->I64 x.set->x.chunks.length*(8:Nat)<=(140737488355328:Nat)->x.tag.b.length<=(140737488355328:Nat)->x.id=r0):=by kernel_rfl
theorem Em (x:Snap):Sat Tryz.prog (aq aF) 90 [.agg (cellsOf (.nm .snap) x)] [] ⟨[],[.c (.int ((x.id)))],none,false⟩:=by
 refine aR cP [] Tryz.func90 (by decide) (by kernel_rfl) ?_
 rw [Eo]
 grind
theorem wO (e:Int) (r0:Reply):cN aF im [] Tryz.f34 [.c (.int (e))] [] [.agg (cellsOf (.nm .reply) r0)]=(I64 e->e=r0.code/\(0:Int)=r0.n):=by kernel_rfl
theorem wD (e:Int):Sat Tryz.prog (aq aF) 34 [.c (.int (e))] [] ⟨[],[.agg (cellsOf (.nm .reply) (⟨e,0⟩))],none,false⟩:=by
 refine aR cP [] Tryz.func34 (by decide) (by kernel_rfl) ?_
 rw [wO]
 grind
def Av:ct:=(bO 34 (bI (ah (kC cI) aO) aP fun (e,_) (_)=>⟨[],[.agg (cellsOf (.nm .reply) (⟨e,0⟩))],none,false⟩) (bO 90 (bI (ah (kT (.nm .snap)) aO) aP fun (x,_) (_)=>⟨[],[.c (.int ((x.id)))],none,false⟩) (bO 115 (bI (ah (kT (.nm .opn)) aO) aP fun (x,_) (_)=>⟨[],[.c (.int ((x.set)))],none,false⟩) (bO 86 (bI (ah (kT (.nm .sess)) aO) aP fun (x,_) (_)=>⟨[],[.c (.int ((x.client)))],none,false⟩) (bO 69 (bI (ah (kC cI) (ah (kC cI) (ah (kC cI) aO))) aP fun (n,a,b,_) (_)=>⟨[],[.c (.bool (.atom ((ba n a b))))],none,false⟩) (bO 67 (bI (ah (kC cI) (ah (kC cI) (ah (kC cI) aO))) aP fun (n,a,b,_) (_)=>⟨[],[.c (.bool (.atom ((ba n a b))))],none,false⟩) (bO 110 (bI (ah (kC cI) (ah (kC cI) (ah (kC cI) aO))) aP fun (n,a,b,_) (_)=>⟨[],[.c (.bool (.atom ((ba n a b))))],none,false⟩) (bO 139 (bI (ah (kT (.nm .span)) (ah (kC cI) aO)) aP fun (s,k,_) (_)=>⟨[],[.c (.bool (.atom ((decide (s.lo<=k) && decide (k<=s.hi)))))],none,false⟩) (bO 119 (bI (ah (kC cI) aO) aP fun (x,_) (_)=>⟨[],[.c (.int ((kb x)))],none,false⟩) (bO 130 (bI (ah (kC (cL .int)) (ah (kC (cL .int)) aO)) aP fun (a,b,_) (_)=>⟨[],[.c (.bool (.atom ((decide (a=b)))))],none,false⟩) (bO 140 (bI (ah (kC (cL .int)) aO) aP fun (l,_) (_)=>⟨[],[.c (.bool (.atom ((cq l))))],none,false⟩) (bO 120 (bI (ah (kC cI) aO) aP fun (k,_) (_)=>⟨[],[.c (.bool (.atom ((ju k))))],none,false⟩) im))))))))))))
theorem kM:aU Tryz.prog (aq aF) Av:=(ay (ax (ab (ao av) al) ak fun (e,_) (_) _=>wD e ) (ay (ax (ab bM al) ak fun (x,_) (_) _=>Em x ) (ay (ax (ab bM al) ak fun (x,_) (_) _=>Co x ) (ay (ax (ab bM al) ak fun (x,_) (_) _=>sZ x ) (ay (ax (ab (ao av) (ab (ao av) (ab (ao av) al))) ak fun (n,a,b,_) (_) _=>GI n a b ) (ay (ax (ab (ao av) (ab (ao av) (ab (ao av) al))) ak fun (n,a,b,_) (_) _=>Gq n a b ) (ay (ax (ab (ao av) (ab (ao av) (ab (ao av) al))) ak fun (n,a,b,_) (_) _=>yP n a b ) (ay (ax (ab bM (ab (ao av) al)) ak fun (s,k,_) (_) _=>FY s k ) (ay (ax (ab (ao av) al) ak fun (x,_) (_) _=>ED x ) (ay (ax (ab (ao bF) (ab (ao bF) al)) ak fun (a,b,_) (_) _=>DG a b ) (ay (ax (ab (ao bF) al) ak fun (l,_) (_) _=>GO l ) (ay (ax (ab (ao av) al) ak fun (k,_) (_) _=>AQ k ) cP))))))))))))
end Go.Proofs.YtdggohppeeaipaaGreat
namespace Go.Proofs.YtdggohppeeaipaaGreat
open Go.RowKit
theorem aj {n:Int} (h1:-9223372036854775808<=n) (h2:n<=9223372036854775807):I64 n:=⟨h1,h2⟩
def au {α:Type} (key:α->Int) (want:Int) (l:List α):Int:=match l.findIdx? (fun x=>decide (key x=want)) with
 | some i=>(i:Int)
 | none=>-1
section
variable {α:Type} {key:α->Int} {want:Int} {l:List α} {k:Nat} {x:α}
theorem lF:au key want l = -1↔∀ x ∈ l,¬ key x=want:=by
 unfold au
 cases h:l.findIdx? (fun x=>decide (key x=want)) with
 | none=>simpa using h
 | some i=>
  rw [List.findIdx?_eq_some_iff_getElem] at h
  obtain ⟨h1,h2,_⟩:=h
  simp only [decide_eq_true_eq] at h2
  constructor
  ·intro h; dsimp only at h; omega
  ·intro h; exact absurd h2 (h _ (List.getElem_mem h1))
theorem dQ:au key want (l.take 0) = -1:=rfl
theorem cV (h:au key want (l.take k) = -1) (hx:l[k]? = some x) (hn:¬ key x=want):au key want (l.take (k+1)) = -1:=by
 rw [lF] at h ⊢
 rw [aD hx]
 intro y hy
 rcases List.mem_append.1 hy with hy | hy
 ·exact h y hy
 ·rw [List.mem_singleton] at hy; subst hy; exact hn
theorem dq (h:au key want (l.take k) = -1) (hk:l.length<=k):-1=au key want l:=by
 rw [List.take_of_length_le hk] at h; exact h.symm
theorem cw (h:au key want (l.take k) = -1) (hx:l[k]? = some x) (he:key x=want):(k:Int)=au key want l:=by
 have:l.findIdx? (fun x=>decide (key x=want))=some k:=by
  rw [lF] at h
  obtain ⟨hk,rfl⟩:=List.getElem?_eq_some_iff.1 hx
  rw [List.findIdx?_eq_some_iff_getElem]
  refine ⟨hk,decide_eq_true he,fun j hj=>?_⟩
  have:=h l[j] (by rw [List.mem_take_iff_getElem]; exact ⟨j,by omega,rfl⟩)
  simpa using this
 rw [au,this]
end
def mi (l:List Sess) (want:Int):List (Nat × LI):=[(2,{ σ:=Nat,F:=fun k=>([(1,one (.int (want))),(2,one (.fn 86 [] [])),(9,one (.fz (.nm .sess) (l))),(10,one (.int (l).length)),(11,one (.int k))],[]),J:=fun k=>k<=l.length/\au Sess.client want (l.take k) = -1,μ:=fun k=>(l).length - k })]
def mH (l:List Opn) (want:Int):List (Nat × LI):=[(2,{ σ:=Nat,F:=fun k=>([(1,one (.int (want))),(2,one (.fn 115 [] [])),(9,one (.fz (.nm .opn) (l))),(10,one (.int (l).length)),(11,one (.int k))],[]),J:=fun k=>k<=l.length/\au Opn.set want (l.take k) = -1,μ:=fun k=>(l).length - k })]
def ln (l:List Snap) (want:Int):List (Nat × LI):=[(2,{ σ:=Nat,F:=fun k=>([(1,one (.int (want))),(2,one (.fn 90 [] [])),(9,one (.fz (.nm .snap) (l))),(10,one (.int (l).length)),(11,one (.int k))],[]),J:=fun k=>k<=l.length/\au Snap.id want (l.take k) = -1,μ:=fun k=>(l).length - k })]
theorem qS (l:List Sess) (want:Int) (r0:Int):cN aF Av (mi l want) Tryz.f85 [.c (.fz (.nm .sess) (l)),.c (.int (want)),.c (.fn 86 [] [])] [] [.c (.int (r0))]=((fun (q1:Int)=>(fun (q0:Nat)=>l.length*(32:Nat)<=(140737488355328:Nat)->I64 want->∃ (s0:Nat),(want=want/\l=l/\(↑l.length:Int)=(↑q0:Int)/\(0:Int)=(↑s0:Int))/\(s0<=q0/\au Sess.client want (List.take s0 l) = -q1)/\∀ (s:Nat),s<=q0/\au Sess.client want (List.take s l) = -q1->((↑s:Int)<(↑q0:Int)->(0:Int)<=(↑s:Int)/\(↑s:Int)<(↑l.length:Int)/\∀ (x:Sess),l[s]? = some x->I64 x.client->I64 x.seq->I64 x.last.code->I64 x.last.n->I64 x.client->(x.client=want->(↑s:Int)=r0)/\(¬x.client=want->I64 ((↑s:Int)+q1)/\∃ (s':Nat),(want=want/\l=l/\(↑q0:Int)=(↑q0:Int)/\(↑s:Int)+q1=(↑s':Int))/\(s' <= q0/\au Sess.client want (List.take s' l) = -q1)/\q0 - s' < q0 - s))/\((↑q0:Int)<=(↑s:Int) -> -q1=r0)) l.length) (1:Int)):=by kernel_rfl
theorem rJ (l:List Sess) (want:Int):Sat Tryz.prog (aq aF) 85 [.c (.fz (.nm .sess) (l)),.c (.int (want)),.c (.fn 86 [] [])] [] ⟨[],[.c (.int ((au Sess.client want l)))],none,false⟩:=by
 refine aR kM (mi l want) Tryz.func85 (by decide) (by kernel_rfl) ?_
 rw [qS]
 (repeat' (first | with_reducible refine And.intro ?_ ?_ | with_reducible refine and_imp.2 ?_ | intro))
 all_goals try (first | (first | with_reducible rfl | with_reducible assumption | omega | (refine aj ?_ ?_ <;> omega)) | exact (dQ (key:=Sess.client)) | exact (cw (key:=Sess.client) (by with_reducible assumption) (by with_reducible assumption) (by with_reducible assumption)) | exact (dq (key:=Sess.client) (by with_reducible assumption) (by omega)) | exact (cV (key:=Sess.client) (by with_reducible assumption) (by with_reducible assumption) (by with_reducible assumption)))
 all_goals try (refine ⟨0,?_⟩; (repeat' (first | with_reducible refine And.intro ?_ ?_ | with_reducible refine and_imp.2 ?_ | intro)))
 all_goals try (first | (first | with_reducible rfl | with_reducible assumption | omega | (refine aj ?_ ?_ <;> omega)) | exact (dQ (key:=Sess.client)) | exact (cw (key:=Sess.client) (by with_reducible assumption) (by with_reducible assumption) (by with_reducible assumption)) | exact (dq (key:=Sess.client) (by with_reducible assumption) (by omega)) | exact (cV (key:=Sess.client) (by with_reducible assumption) (by with_reducible assumption) (by with_reducible assumption)))
 all_goals try (refine ⟨‹Nat› + 1,?_⟩; (repeat' (first | with_reducible refine And.intro ?_ ?_ | with_reducible refine and_imp.2 ?_ | intro)))
 all_goals (first | (first | with_reducible rfl | with_reducible assumption | omega | (refine aj ?_ ?_ <;> omega)) | exact (dQ (key:=Sess.client)) | exact (cw (key:=Sess.client) (by with_reducible assumption) (by with_reducible assumption) (by with_reducible assumption)) | exact (dq (key:=Sess.client) (by with_reducible assumption) (by omega)) | exact (cV (key:=Sess.client) (by with_reducible assumption) (by with_reducible assumption) (by with_reducible assumption)))
theorem qf (l:List Opn) (want:Int) (r0:Int):cN aF Av (mH l want) Tryz.f123 [.c (.fz (.nm .opn) (l)),.c (.int (want)),.c (.fn 115 [] [])] [] [.c (.int (r0))]=((fun (q1:Int)=>(fun (q0:Nat)=>l.length*(16:Nat)<=(140737488355328:Nat)->I64 want->∃ (s0:Nat),(want=want/\l=l/\(↑l.length:Int)=(↑q0:Int)/\(0:Int)=(↑s0:Int))/\(s0<=q0/\au Opn.set want (List.take s0 l) = -q1)/\∀ (s:Nat),s<=q0/\au Opn.set want (List.take s l) = -q1->((↑s:Int)<(↑q0:Int)->(0:Int)<=(↑s:Int)/\(↑s:Int)<(↑l.length:Int)/\∀ (x:Opn),l[s]? = some x->I64 x.set->I64 x.client->I64 x.set->(x.set=want->(↑s:Int)=r0)/\(¬x.set=want->I64 ((↑s:Int)+q1)/\∃ (s':Nat),(want=want/\l=l/\(↑q0:Int)=(↑q0:Int)/\(↑s:Int)+q1=(↑s':Int))/\(s' <= q0/\au Opn.set want (List.take s' l) = -q1)/\q0 - s' < q0 - s))/\((↑q0:Int)<=(↑s:Int) -> -q1=r0)) l.length) (1:Int)):=by kernel_rfl
theorem qM (l:List Opn) (want:Int):Sat Tryz.prog (aq aF) 123 [.c (.fz (.nm .opn) (l)),.c (.int (want)),.c (.fn 115 [] [])] [] ⟨[],[.c (.int ((au Opn.set want l)))],none,false⟩:=by
 refine aR kM (mH l want) Tryz.func123 (by decide) (by kernel_rfl) ?_
 rw [qf]
 (repeat' (first | with_reducible refine And.intro ?_ ?_ | with_reducible refine and_imp.2 ?_ | intro))
 all_goals try (first | (first | with_reducible rfl | with_reducible assumption | omega | (refine aj ?_ ?_ <;> omega)) | exact (dQ (key:=Opn.set)) | exact (cw (key:=Opn.set) (by with_reducible assumption) (by with_reducible assumption) (by with_reducible assumption)) | exact (dq (key:=Opn.set) (by with_reducible assumption) (by omega)) | exact (cV (key:=Opn.set) (by with_reducible assumption) (by with_reducible assumption) (by with_reducible assumption)))
 all_goals try (refine ⟨0,?_⟩; (repeat' (first | with_reducible refine And.intro ?_ ?_ | with_reducible refine and_imp.2 ?_ | intro)))
 all_goals try (first | (first | with_reducible rfl | with_reducible assumption | omega | (refine aj ?_ ?_ <;> omega)) | exact (dQ (key:=Opn.set)) | exact (cw (key:=Opn.set) (by with_reducible assumption) (by with_reducible assumption) (by with_reducible assumption)) | exact (dq (key:=Opn.set) (by with_reducible assumption) (by omega)) | exact (cV (key:=Opn.set) (by with_reducible assumption) (by with_reducible assumption) (by with_reducible assumption)))
 all_goals try (refine ⟨‹Nat› + 1,?_⟩; (repeat' (first | with_reducible refine And.intro ?_ ?_ | with_reducible refine and_imp.2 ?_ | intro)))
 all_goals (first | (first | with_reducible rfl | with_reducible assumption | omega | (refine aj ?_ ?_ <;> omega)) | exact (dQ (key:=Opn.set)) | exact (cw (key:=Opn.set) (by with_reducible assumption) (by with_reducible assumption) (by with_reducible assumption)) | exact (dq (key:=Opn.set) (by with_reducible assumption) (by omega)) | exact (cV (key:=Opn.set) (by with_reducible assumption) (by with_reducible assumption) (by with_reducible assumption)))
theorem rf (l:List Snap) (want:Int) (r0:Int):cN aF Av (ln l want) Tryz.f89 [.c (.fz (.nm .snap) (l)),.c (.int (want)),.c (.fn 90 [] [])] [] [.c (.int (r0))]=((fun (q1:Int)=>(fun (q0:Nat)=>l.length*(64:Nat)<=(140737488355328:Nat)->I64 want->∃ (s0:Nat),(want=want/\l=l/\(↑l.length:Int)=(↑q0:Int)/\(0:Int)=(↑s0:Int))/\(s0<=q0/\au Snap.id want (List.take s0 l) = -q1)/\∀ (s:Nat),s<=q0/\au Snap.id want (List.take s l) = -q1->((↑s:Int)<(↑q0:Int)->(0:Int)<=(↑s:Int)/\(↑s:Int)<(↑l.length:Int)/\∀ (x:Snap),l[s]? = some x->I64 x.id->I64 x.set->x.chunks.length*(8:Nat)<=(140737488355328:Nat)->x.tag.b.length<=(140737488355328:Nat)->I64 x.id->(x.id=want->(↑s:Int)=r0)/\(¬x.id=want->I64 ((↑s:Int)+q1)/\∃ (s':Nat),(want=want/\l=l/\(↑q0:Int)=(↑q0:Int)/\(↑s:Int)+q1=(↑s':Int))/\(s' <= q0/\au Snap.id want (List.take s' l) = -q1)/\q0 - s' < q0 - s))/\((↑q0:Int)<=(↑s:Int) -> -q1=r0)) l.length) (1:Int)):=by kernel_rfl
theorem qU (l:List Snap) (want:Int):Sat Tryz.prog (aq aF) 89 [.c (.fz (.nm .snap) (l)),.c (.int (want)),.c (.fn 90 [] [])] [] ⟨[],[.c (.int ((au Snap.id want l)))],none,false⟩:=by
 refine aR kM (ln l want) Tryz.func89 (by decide) (by kernel_rfl) ?_
 rw [rf]
 (repeat' (first | with_reducible refine And.intro ?_ ?_ | with_reducible refine and_imp.2 ?_ | intro))
 all_goals try (first | (first | with_reducible rfl | with_reducible assumption | omega | (refine aj ?_ ?_ <;> omega)) | exact (dQ (key:=Snap.id)) | exact (cw (key:=Snap.id) (by with_reducible assumption) (by with_reducible assumption) (by with_reducible assumption)) | exact (dq (key:=Snap.id) (by with_reducible assumption) (by omega)) | exact (cV (key:=Snap.id) (by with_reducible assumption) (by with_reducible assumption) (by with_reducible assumption)))
 all_goals try (refine ⟨0,?_⟩; (repeat' (first | with_reducible refine And.intro ?_ ?_ | with_reducible refine and_imp.2 ?_ | intro)))
 all_goals try (first | (first | with_reducible rfl | with_reducible assumption | omega | (refine aj ?_ ?_ <;> omega)) | exact (dQ (key:=Snap.id)) | exact (cw (key:=Snap.id) (by with_reducible assumption) (by with_reducible assumption) (by with_reducible assumption)) | exact (dq (key:=Snap.id) (by with_reducible assumption) (by omega)) | exact (cV (key:=Snap.id) (by with_reducible assumption) (by with_reducible assumption) (by with_reducible assumption)))
 all_goals try (refine ⟨‹Nat› + 1,?_⟩; (repeat' (first | with_reducible refine And.intro ?_ ?_ | with_reducible refine and_imp.2 ?_ | intro)))
 all_goals (first | (first | with_reducible rfl | with_reducible assumption | omega | (refine aj ?_ ?_ <;> omega)) | exact (dQ (key:=Snap.id)) | exact (cw (key:=Snap.id) (by with_reducible assumption) (by with_reducible assumption) (by with_reducible assumption)) | exact (dq (key:=Snap.id) (by with_reducible assumption) (by omega)) | exact (cV (key:=Snap.id) (by with_reducible assumption) (by with_reducible assumption) (by with_reducible assumption)))
def qV:ct:=(bO 89 (bI (ah (kC (cL (.nm .snap))) (ah (kC cI) (ah (kC (kR 90 [] [])) aO))) aP fun (l,want,_,_) (_)=>⟨[],[.c (.int ((au Snap.id want l)))],none,false⟩) (bO 123 (bI (ah (kC (cL (.nm .opn))) (ah (kC cI) (ah (kC (kR 115 [] [])) aO))) aP fun (l,want,_,_) (_)=>⟨[],[.c (.int ((au Opn.set want l)))],none,false⟩) (bO 85 (bI (ah (kC (cL (.nm .sess))) (ah (kC cI) (ah (kC (kR 86 [] [])) aO))) aP fun (l,want,_,_) (_)=>⟨[],[.c (.int ((au Sess.client want l)))],none,false⟩) Av)))
theorem ft:aU Tryz.prog (aq aF) qV:=(ay (ax (ab (ao bF) (ab (ao av) (ab (ao bV) al))) ak fun (l,want,_,_) (_) _=>qU l want ) (ay (ax (ab (ao bF) (ab (ao av) (ab (ao bV) al))) ak fun (l,want,_,_) (_) _=>qM l want ) (ay (ax (ab (ao bF) (ab (ao av) (ab (ao bV) al))) ak fun (l,want,_,_) (_) _=>rJ l want ) kM)))
end Go.Proofs.YtdggohppeeaipaaGreat
namespace Go.Proofs.YtdggohppeeaipaaGreat
open Go.RowKit
theorem AG {n r m:Nat} (h:aX n+1=aX r+m) (hr:128<=r):aX n+1=aX (r / 128)+(m+1):=by
 have:=lr (n:=r) (by omega); omega
theorem Cz {n r m:Nat} (h:aX n+1=aX r+m) (hn:n<18446744073709551616):m<=10:=by
 have:=kZ hn; have:=gv r; omega
theorem yS {n r m:Nat} (h:aX n+1=aX r+m) (hr:r<128):m=aX n:=by
 have:=gV hr; omega
section
variable {α:Type} {key:α->Int} {most:Int} {l:List α} {k:Nat} {x:α}
theorem iq (h:aw key most 0 (l.take k)=true) (hx:l[k]? = some x) (hb:ba (key x) (aW key 0 (l.take k)+1) most=true):aw key most 0 (l.take (k+1))=true:=
 fS h hx (by have:=nO hb; omega) (nO hb).2
theorem iL (hx:l[k]? = some x) (hb:ba (key x) (aW key 0 (l.take k)+1) most=false):false=aw key most 0 l:=
 (kv hx (by have:=Is hb; omega)).symm
theorem iw (h:aw key most 0 (l.take k)=true) (hk:l.length<=k):true=aw key most 0 l:=(fM h hk).symm
theorem hX (hx:l[k]? = some x) (h0:0<=aW key 0 (l.take k)) (hb:ba (key x) (aW key 0 (l.take k)+1) most=true):0<=aW key 0 (l.take (k+1)):=by
 have:=nO hb; rw [<- bE hx]; omega
theorem iQ (hx:l[k]? = some x) (hb:ba (key x) (aW key 0 (l.take k)+1) most=true) (hm:most<=1048576):aW key 0 (l.take (k+1))<=1048576:=by
 have:=nO hb; rw [<- bE hx]; omega
variable {p:α->Bool}
theorem ic (hx:l[k]? = some x) (hp:p x=false):false=l.all p:=(xA hx hp).symm
theorem iv (h:(l.take k).all p=true) (hk:l.length<=k):true=l.all p:=(zb h hk).symm
end
def CU (n:U64):List (Nat × LI):=[(2,{ σ:=Nat × Nat,F:=fun s=>([(0,one (.u64 s.1)),(3,one (.int s.2))],[]),J:=fun s=>s.1<18446744073709551616/\aX n.n+1=aX s.1+s.2,μ:=fun s=>s.1 })]
def kn (l:List Sess) (most:Int):List (Nat × LI):=[(3,{ σ:=Nat,F:=fun k=>([(1,one (.int (most))),(2,one (.fn 86 [] [])),(7,one (.int (aW Sess.client 0 (l.take k)))),(10,one (.fz (.nm .sess) (l))),(11,one (.int (l).length)),(12,one (.int k))],[]),J:=fun k=>k<=l.length/\aw Sess.client most 0 (l.take k)=true/\0<=aW Sess.client 0 (l.take k)/\aW Sess.client 0 (l.take k)<=1048576,μ:=fun k=>(l).length - k })]
def jZ (l:List Opn) (most:Int):List (Nat × LI):=[(3,{ σ:=Nat,F:=fun k=>([(1,one (.int (most))),(2,one (.fn 115 [] [])),(7,one (.int (aW Opn.set 0 (l.take k)))),(10,one (.fz (.nm .opn) (l))),(11,one (.int (l).length)),(12,one (.int k))],[]),J:=fun k=>k<=l.length/\aw Opn.set most 0 (l.take k)=true/\0<=aW Opn.set 0 (l.take k)/\aW Opn.set 0 (l.take k)<=1048576,μ:=fun k=>(l).length - k })]
def kq (l:List Snap) (most:Int):List (Nat × LI):=[(3,{ σ:=Nat,F:=fun k=>([(1,one (.int (most))),(2,one (.fn 90 [] [])),(7,one (.int (aW Snap.id 0 (l.take k)))),(10,one (.fz (.nm .snap) (l))),(11,one (.int (l).length)),(12,one (.int k))],[]),J:=fun k=>k<=l.length/\aw Snap.id most 0 (l.take k)=true/\0<=aW Snap.id 0 (l.take k)/\aW Snap.id 0 (l.take k)<=1048576,μ:=fun k=>(l).length - k })]
theorem FC (n:U64) (r0:Int):cN aF qV (CU n) Tryz.f146 [.c (.u64 (n).n)] [] [.c (.int (r0))]=((fun (q0:Nat)=>n.n<(18446744073709551616:Nat)->∃ (s0:Nat × Nat),(n.n=s0.fst/\(1:Int)=(↑s0.snd:Int))/\(s0.fst<(18446744073709551616:Nat)/\q0=aX s0.fst+s0.snd)/\∀ (s:Nat × Nat),s.fst<(18446744073709551616:Nat)/\q0=aX s.fst+s.snd->((↑(128:Nat):Int)<=(↑s.fst:Int)->(7:Nat)<(64:Nat)/\I64 ((↑s.snd:Int)+(1:Int))/\∃ (s':Nat × Nat),(s.fst / (2:Nat) ^ (7:Nat)=s'.fst/\(↑s.snd:Int)+(1:Int)=(↑s'.snd:Int))/\(s'.fst<(18446744073709551616:Nat)/\q0=aX s'.fst+s'.snd)/\s'.fst<s.fst)/\((↑s.fst:Int)<(↑(128:Nat):Int)->(↑s.snd:Int)=r0)) (aX n.n+(1:Nat))):=by kernel_rfl
theorem DN (n:U64):Sat Tryz.prog (aq aF) 146 [.c (.u64 (n).n)] [] ⟨[],[.c (.int (((aX n.n:Int))))],none,false⟩:=by
 refine aR ft (CU n) Tryz.func146 (by decide) (by kernel_rfl) ?_
 rw [FC]
 intro hn
 refine ⟨(n.n,1),⟨rfl,rfl⟩,⟨hn,rfl⟩,fun s hs=>⟨fun h=>?_,fun h=>?_⟩⟩
 ·have h2:=AG hs.2 (by omega)
  have h3:=Cz hs.2 hn
  exact ⟨by omega,by constructor <;> omega,(s.1 / 128,s.2+1),⟨rfl,by simp⟩,⟨by show s.1 / 128<_; omega,h2⟩,by show s.1 / 128<s.1; omega⟩
 ·exact congrArg Int.ofNat (yS hs.2 (by omega))
theorem ot (l:List Sess) (most:Int) (r0:Bool):cN aF qV (kn l most) Tryz.f111 [.c (.fz (.nm .sess) (l)),.c (.int (most)),.c (.fn 86 [] [])] [] [.c (.bool (.atom (r0)))]=((fun (q1:Nat)=>(fun (q0:Int)=>l.length*(32:Nat)<=(140737488355328:Nat)->I64 most->∃ (s0:Nat),(fun (q2:Int)=>(most=most/\q0=q2/\l=l/\(↑l.length:Int)=(↑q1:Int)/\q0=(↑s0:Int))/\(s0<=q1/\aw Sess.client most q0 (List.take s0 l)=true/\q0<=q2/\q2<=(1048576:Int))/\∀ (s:Nat),(fun (q3:Int)=>s<=q1/\aw Sess.client most q0 (List.take s l)=true/\q0<=q3/\q3<=(1048576:Int)->((↑s:Int)<(↑q1:Int)->q0<=(↑s:Int)/\(↑s:Int)<(↑l.length:Int)/\∀ (x:Sess),(fun (q4:Bool)=>l[s]? = some x->I64 x.client->I64 x.seq->I64 x.last.code->I64 x.last.n->I64 x.client->I64 (q3+(1:Int))/\(q4=false->false=r0)/\(q4=true->I64 x.client->I64 ((↑s:Int)+(1:Int))/\∃ (s':Nat),(fun (q5:Int)=>(most=most/\x.client=q5/\l=l/\(↑q1:Int)=(↑q1:Int)/\(↑s:Int)+(1:Int)=(↑s':Int))/\(s' <= q1/\aw Sess.client most q0 (List.take s' l)=true/\q0<=q5/\q5<=(1048576:Int))/\q1 - s' < q1 - s) (aW Sess.client q0 (List.take s' l)))) (ba x.client (q3+(1:Int)) most))/\((↑q1:Int)<=(↑s:Int)->true=r0)) (aW Sess.client q0 (List.take s l))) (aW Sess.client q0 (List.take s0 l))) (0:Int)) l.length):=by kernel_rfl
theorem oJ (l:List Sess) (most:Int) (h0:most<=1048576):Sat Tryz.prog (aq aF) 111 [.c (.fz (.nm .sess) (l)),.c (.int (most)),.c (.fn 86 [] [])] [] ⟨[most<=1048576],[.c (.bool (.atom ((aw Sess.client most 0 l))))],none,false⟩:=by
 refine aR ft (kn l most) Tryz.func111 (by decide) (by kernel_rfl) ?_
 rw [ot]
 (repeat' (first | with_reducible refine And.intro ?_ ?_ | with_reducible refine and_imp.2 ?_ | intro))
 all_goals try (first | (first | with_reducible rfl | with_reducible assumption | omega | (refine aj ?_ ?_ <;> omega)) | exact (iq (key:=Sess.client) (by with_reducible assumption) (by with_reducible assumption) (by with_reducible assumption)) | exact (iL (key:=Sess.client) (by with_reducible assumption) (by with_reducible assumption)) | exact (iw (key:=Sess.client) (by with_reducible assumption) (by omega)) | exact (bE (key:=Sess.client) (by with_reducible assumption)) | exact (hX (key:=Sess.client) (by with_reducible assumption) (by with_reducible assumption) (by with_reducible assumption)) | exact (iQ (key:=Sess.client) (by with_reducible assumption) (by with_reducible assumption) (by with_reducible assumption)) | exact rfl | exact Int.le_refl _ | exact (show (0:Int)<=1048576 by omega))
 all_goals try (refine ⟨0,?_⟩; (repeat' (first | with_reducible refine And.intro ?_ ?_ | with_reducible refine and_imp.2 ?_ | intro)))
 all_goals try (first | (first | with_reducible rfl | with_reducible assumption | omega | (refine aj ?_ ?_ <;> omega)) | exact (iq (key:=Sess.client) (by with_reducible assumption) (by with_reducible assumption) (by with_reducible assumption)) | exact (iL (key:=Sess.client) (by with_reducible assumption) (by with_reducible assumption)) | exact (iw (key:=Sess.client) (by with_reducible assumption) (by omega)) | exact (bE (key:=Sess.client) (by with_reducible assumption)) | exact (hX (key:=Sess.client) (by with_reducible assumption) (by with_reducible assumption) (by with_reducible assumption)) | exact (iQ (key:=Sess.client) (by with_reducible assumption) (by with_reducible assumption) (by with_reducible assumption)) | exact rfl | exact Int.le_refl _ | exact (show (0:Int)<=1048576 by omega))
 all_goals try (refine ⟨‹Nat› + 1,?_⟩; (repeat' (first | with_reducible refine And.intro ?_ ?_ | with_reducible refine and_imp.2 ?_ | intro)))
 all_goals (first | (first | with_reducible rfl | with_reducible assumption | omega | (refine aj ?_ ?_ <;> omega)) | exact (iq (key:=Sess.client) (by with_reducible assumption) (by with_reducible assumption) (by with_reducible assumption)) | exact (iL (key:=Sess.client) (by with_reducible assumption) (by with_reducible assumption)) | exact (iw (key:=Sess.client) (by with_reducible assumption) (by omega)) | exact (bE (key:=Sess.client) (by with_reducible assumption)) | exact (hX (key:=Sess.client) (by with_reducible assumption) (by with_reducible assumption) (by with_reducible assumption)) | exact (iQ (key:=Sess.client) (by with_reducible assumption) (by with_reducible assumption) (by with_reducible assumption)) | exact rfl | exact Int.le_refl _ | exact (show (0:Int)<=1048576 by omega))
theorem oe (l:List Opn) (most:Int) (r0:Bool):cN aF qV (jZ l most) Tryz.f114 [.c (.fz (.nm .opn) (l)),.c (.int (most)),.c (.fn 115 [] [])] [] [.c (.bool (.atom (r0)))]=((fun (q1:Nat)=>(fun (q0:Int)=>l.length*(16:Nat)<=(140737488355328:Nat)->I64 most->∃ (s0:Nat),(fun (q2:Int)=>(most=most/\q0=q2/\l=l/\(↑l.length:Int)=(↑q1:Int)/\q0=(↑s0:Int))/\(s0<=q1/\aw Opn.set most q0 (List.take s0 l)=true/\q0<=q2/\q2<=(1048576:Int))/\∀ (s:Nat),(fun (q3:Int)=>s<=q1/\aw Opn.set most q0 (List.take s l)=true/\q0<=q3/\q3<=(1048576:Int)->((↑s:Int)<(↑q1:Int)->q0<=(↑s:Int)/\(↑s:Int)<(↑l.length:Int)/\∀ (x:Opn),(fun (q4:Bool)=>l[s]? = some x->I64 x.set->I64 x.client->I64 x.set->I64 (q3+(1:Int))/\(q4=false->false=r0)/\(q4=true->I64 x.set->I64 ((↑s:Int)+(1:Int))/\∃ (s':Nat),(fun (q5:Int)=>(most=most/\x.set=q5/\l=l/\(↑q1:Int)=(↑q1:Int)/\(↑s:Int)+(1:Int)=(↑s':Int))/\(s' <= q1/\aw Opn.set most q0 (List.take s' l)=true/\q0<=q5/\q5<=(1048576:Int))/\q1 - s' < q1 - s) (aW Opn.set q0 (List.take s' l)))) (ba x.set (q3+(1:Int)) most))/\((↑q1:Int)<=(↑s:Int)->true=r0)) (aW Opn.set q0 (List.take s l))) (aW Opn.set q0 (List.take s0 l))) (0:Int)) l.length):=by kernel_rfl
theorem nU (l:List Opn) (most:Int) (h0:most<=1048576):Sat Tryz.prog (aq aF) 114 [.c (.fz (.nm .opn) (l)),.c (.int (most)),.c (.fn 115 [] [])] [] ⟨[most<=1048576],[.c (.bool (.atom ((aw Opn.set most 0 l))))],none,false⟩:=by
 refine aR ft (jZ l most) Tryz.func114 (by decide) (by kernel_rfl) ?_
 rw [oe]
 (repeat' (first | with_reducible refine And.intro ?_ ?_ | with_reducible refine and_imp.2 ?_ | intro))
 all_goals try (first | (first | with_reducible rfl | with_reducible assumption | omega | (refine aj ?_ ?_ <;> omega)) | exact (iq (key:=Opn.set) (by with_reducible assumption) (by with_reducible assumption) (by with_reducible assumption)) | exact (iL (key:=Opn.set) (by with_reducible assumption) (by with_reducible assumption)) | exact (iw (key:=Opn.set) (by with_reducible assumption) (by omega)) | exact (bE (key:=Opn.set) (by with_reducible assumption)) | exact (hX (key:=Opn.set) (by with_reducible assumption) (by with_reducible assumption) (by with_reducible assumption)) | exact (iQ (key:=Opn.set) (by with_reducible assumption) (by with_reducible assumption) (by with_reducible assumption)) | exact rfl | exact Int.le_refl _ | exact (show (0:Int)<=1048576 by omega))
 all_goals try (refine ⟨0,?_⟩; (repeat' (first | with_reducible refine And.intro ?_ ?_ | with_reducible refine and_imp.2 ?_ | intro)))
 all_goals try (first | (first | with_reducible rfl | with_reducible assumption | omega | (refine aj ?_ ?_ <;> omega)) | exact (iq (key:=Opn.set) (by with_reducible assumption) (by with_reducible assumption) (by with_reducible assumption)) | exact (iL (key:=Opn.set) (by with_reducible assumption) (by with_reducible assumption)) | exact (iw (key:=Opn.set) (by with_reducible assumption) (by omega)) | exact (bE (key:=Opn.set) (by with_reducible assumption)) | exact (hX (key:=Opn.set) (by with_reducible assumption) (by with_reducible assumption) (by with_reducible assumption)) | exact (iQ (key:=Opn.set) (by with_reducible assumption) (by with_reducible assumption) (by with_reducible assumption)) | exact rfl | exact Int.le_refl _ | exact (show (0:Int)<=1048576 by omega))
 all_goals try (refine ⟨‹Nat› + 1,?_⟩; (repeat' (first | with_reducible refine And.intro ?_ ?_ | with_reducible refine and_imp.2 ?_ | intro)))
 all_goals (first | (first | with_reducible rfl | with_reducible assumption | omega | (refine aj ?_ ?_ <;> omega)) | exact (iq (key:=Opn.set) (by with_reducible assumption) (by with_reducible assumption) (by with_reducible assumption)) | exact (iL (key:=Opn.set) (by with_reducible assumption) (by with_reducible assumption)) | exact (iw (key:=Opn.set) (by with_reducible assumption) (by omega)) | exact (bE (key:=Opn.set) (by with_reducible assumption)) | exact (hX (key:=Opn.set) (by with_reducible assumption) (by with_reducible assumption) (by with_reducible assumption)) | exact (iQ (key:=Opn.set) (by with_reducible assumption) (by with_reducible assumption) (by with_reducible assumption)) | exact rfl | exact Int.le_refl _ | exact (show (0:Int)<=1048576 by omega))
theorem oE (l:List Snap) (most:Int) (r0:Bool):cN aF qV (kq l most) Tryz.f132 [.c (.fz (.nm .snap) (l)),.c (.int (most)),.c (.fn 90 [] [])] [] [.c (.bool (.atom (r0)))]=((fun (q1:Nat)=>(fun (q0:Int)=>l.length*(64:Nat)<=(140737488355328:Nat)->I64 most->∃ (s0:Nat),(fun (q2:Int)=>(most=most/\q0=q2/\l=l/\(↑l.length:Int)=(↑q1:Int)/\q0=(↑s0:Int))/\(s0<=q1/\aw Snap.id most q0 (List.take s0 l)=true/\q0<=q2/\q2<=(1048576:Int))/\∀ (s:Nat),(fun (q3:Int)=>s<=q1/\aw Snap.id most q0 (List.take s l)=true/\q0<=q3/\q3<=(1048576:Int)->((↑s:Int)<(↑q1:Int)->q0<=(↑s:Int)/\(↑s:Int)<(↑l.length:Int)/\∀ (x:Snap),(fun (q4:Int)=>l[s]? = some x->I64 x.id->I64 x.set->x.chunks.length*(8:Nat)<=(140737488355328:Nat)->x.tag.b.length<=(140737488355328:Nat)->I64 x.id->I64 q4/\(ba x.id q4 most=false->false=r0)/\(ba x.id q4 most=true->I64 x.id->I64 ((↑s:Int)+(1:Int))/\∃ (s':Nat),(fun (q5:Int)=>(most=most/\x.id=q5/\l=l/\(↑q1:Int)=(↑q1:Int)/\(↑s:Int)+(1:Int)=(↑s':Int))/\(s' <= q1/\aw Snap.id most q0 (List.take s' l)=true/\q0<=q5/\q5<=(1048576:Int))/\q1 - s' < q1 - s) (aW Snap.id q0 (List.take s' l)))) (q3+(1:Int)))/\((↑q1:Int)<=(↑s:Int)->true=r0)) (aW Snap.id q0 (List.take s l))) (aW Snap.id q0 (List.take s0 l))) (0:Int)) l.length):=by kernel_rfl
theorem oB (l:List Snap) (most:Int) (h0:most<=1048576):Sat Tryz.prog (aq aF) 132 [.c (.fz (.nm .snap) (l)),.c (.int (most)),.c (.fn 90 [] [])] [] ⟨[most<=1048576],[.c (.bool (.atom ((aw Snap.id most 0 l))))],none,false⟩:=by
 refine aR ft (kq l most) Tryz.func132 (by decide) (by kernel_rfl) ?_
 rw [oE]
 (repeat' (first | with_reducible refine And.intro ?_ ?_ | with_reducible refine and_imp.2 ?_ | intro))
 all_goals try (first | (first | with_reducible rfl | with_reducible assumption | omega | (refine aj ?_ ?_ <;> omega)) | exact (iq (key:=Snap.id) (by with_reducible assumption) (by with_reducible assumption) (by with_reducible assumption)) | exact (iL (key:=Snap.id) (by with_reducible assumption) (by with_reducible assumption)) | exact (iw (key:=Snap.id) (by with_reducible assumption) (by omega)) | exact (bE (key:=Snap.id) (by with_reducible assumption)) | exact (hX (key:=Snap.id) (by with_reducible assumption) (by with_reducible assumption) (by with_reducible assumption)) | exact (iQ (key:=Snap.id) (by with_reducible assumption) (by with_reducible assumption) (by with_reducible assumption)) | exact rfl | exact Int.le_refl _ | exact (show (0:Int)<=1048576 by omega))
 all_goals try (refine ⟨0,?_⟩; (repeat' (first | with_reducible refine And.intro ?_ ?_ | with_reducible refine and_imp.2 ?_ | intro)))
 all_goals try (first | (first | with_reducible rfl | with_reducible assumption | omega | (refine aj ?_ ?_ <;> omega)) | exact (iq (key:=Snap.id) (by with_reducible assumption) (by with_reducible assumption) (by with_reducible assumption)) | exact (iL (key:=Snap.id) (by with_reducible assumption) (by with_reducible assumption)) | exact (iw (key:=Snap.id) (by with_reducible assumption) (by omega)) | exact (bE (key:=Snap.id) (by with_reducible assumption)) | exact (hX (key:=Snap.id) (by with_reducible assumption) (by with_reducible assumption) (by with_reducible assumption)) | exact (iQ (key:=Snap.id) (by with_reducible assumption) (by with_reducible assumption) (by with_reducible assumption)) | exact rfl | exact Int.le_refl _ | exact (show (0:Int)<=1048576 by omega))
 all_goals try (refine ⟨‹Nat› + 1,?_⟩; (repeat' (first | with_reducible refine And.intro ?_ ?_ | with_reducible refine and_imp.2 ?_ | intro)))
 all_goals (first | (first | with_reducible rfl | with_reducible assumption | omega | (refine aj ?_ ?_ <;> omega)) | exact (iq (key:=Snap.id) (by with_reducible assumption) (by with_reducible assumption) (by with_reducible assumption)) | exact (iL (key:=Snap.id) (by with_reducible assumption) (by with_reducible assumption)) | exact (iw (key:=Snap.id) (by with_reducible assumption) (by omega)) | exact (bE (key:=Snap.id) (by with_reducible assumption)) | exact (hX (key:=Snap.id) (by with_reducible assumption) (by with_reducible assumption) (by with_reducible assumption)) | exact (iQ (key:=Snap.id) (by with_reducible assumption) (by with_reducible assumption) (by with_reducible assumption)) | exact rfl | exact Int.le_refl _ | exact (show (0:Int)<=1048576 by omega))
theorem DQ (x:Sess) (r0:Bool):cN aF qV [] Tryz.f113 [.agg (cellsOf (.nm .sess) x)] [] [.c (.bool (.atom (r0)))]=(I64 x.client->I64 x.seq->I64 x.last.code->I64 x.last.n->(ba x.seq (0:Int) (1048576:Int) && ba x.last.code (0:Int) (99:Int) && ba x.last.n (0:Int) (1048576:Int))=r0):=by kernel_rfl
theorem Es (x:Sess):Sat Tryz.prog (aq aF) 113 [.agg (cellsOf (.nm .sess) x)] [] ⟨[],[.c (.bool (.atom ((aN x))))],none,false⟩:=by
 refine aR ft [] Tryz.func113 (by decide) (by kernel_rfl) ?_
 rw [DQ]
 grind [aN,ba]
theorem Et (x:Opn) (r0:Bool):cN aF qV [] Tryz.f117 [.agg (cellsOf (.nm .opn) x)] [] [.c (.bool (.atom (r0)))]=(I64 x.set->I64 x.client->ba x.client (1:Int) (8:Int)=r0):=by kernel_rfl
theorem DM (x:Opn):Sat Tryz.prog (aq aF) 117 [.agg (cellsOf (.nm .opn) x)] [] ⟨[],[.c (.bool (.atom ((aM x))))],none,false⟩:=by
 refine aR ft [] Tryz.func117 (by decide) (by kernel_rfl) ?_
 rw [Et]
 grind [aM,ba]
def oz:ct:=(bO 117 (bI (ah (kT (.nm .opn)) aO) aP fun (x,_) (_)=>⟨[],[.c (.bool (.atom ((aM x))))],none,false⟩) (bO 113 (bI (ah (kT (.nm .sess)) aO) aP fun (x,_) (_)=>⟨[],[.c (.bool (.atom ((aN x))))],none,false⟩) (bO 132 (bI (ah (kC (cL (.nm .snap))) (ah (kC cI) (ah (kC (kR 90 [] [])) aO))) aP fun (l,most,_,_) (_)=>⟨[most<=1048576],[.c (.bool (.atom ((aw Snap.id most 0 l))))],none,false⟩) (bO 114 (bI (ah (kC (cL (.nm .opn))) (ah (kC cI) (ah (kC (kR 115 [] [])) aO))) aP fun (l,most,_,_) (_)=>⟨[most<=1048576],[.c (.bool (.atom ((aw Opn.set most 0 l))))],none,false⟩) (bO 111 (bI (ah (kC (cL (.nm .sess))) (ah (kC cI) (ah (kC (kR 86 [] [])) aO))) aP fun (l,most,_,_) (_)=>⟨[most<=1048576],[.c (.bool (.atom ((aw Sess.client most 0 l))))],none,false⟩) (bO 146 (bI (ah (kC cU) aO) aP fun (n,_) (_)=>⟨[],[.c (.int (((aX n.n:Int))))],none,false⟩) qV))))))
theorem eB:aU Tryz.prog (aq aF) oz:=(ay (ax (ab bM al) ak fun (x,_) (_) _=>DM x ) (ay (ax (ab bM al) ak fun (x,_) (_) _=>Es x ) (ay (ax (ab (ao bF) (ab (ao av) (ab (ao bV) al))) ak fun (l,most,_,_) (_) hp=>oB l most (eI hp)) (ay (ax (ab (ao bF) (ab (ao av) (ab (ao bV) al))) ak fun (l,most,_,_) (_) hp=>nU l most (eI hp)) (ay (ax (ab (ao bF) (ab (ao av) (ab (ao bV) al))) ak fun (l,most,_,_) (_) hp=>oJ l most (eI hp)) (ay (ax (ab (ao CR) al) ak fun (n,_) (_) _=>DN n ) ft))))))
end Go.Proofs.YtdggohppeeaipaaGreat
namespace Go.Proofs.YtdggohppeeaipaaGreat
open Go.RowKit
theorem sV {n k:Nat} (h:(k:Int)<aX n):(dv n k).set k (UInt8.ofNat (n / 128 ^ k) ||| UInt8.ofNat 128)=dv n (k+1):=tC (by omega)
theorem oL {n k:Nat} (h1:k<=aX n) (h2:(aX n:Int)<=(k:Int)):(dv n k).set ((aX n:Int) - 1).toNat ((dv n k).getD ((aX n:Int) - 1).toNat (dflt Sh.u8) &&& UInt8.ofNat 127)=ly n:=by
 have e:k=aX n:=by omega
 have e2:((aX n:Int) - 1).toNat=aX n - 1:=by omega
 have hl:=eW (n:=n) (Nat.le_refl _)
 have hp:=gv n
 subst e
 have hlt:aX n - 1<(dv n (aX n)).length:=by omega
 rw [e2,List.getD_eq_getElem?_getD,List.getElem?_eq_getElem hlt,Option.getD_some,tg (List.getElem?_eq_getElem hlt)]
 rfl
def GQ (n:U64):List (Nat × LI):=[(4,{ σ:=Nat,F:=fun k=>([(0,one (.u64 (n.n / 128 ^ k))),(3,one (.int (aX n.n))),(4,one (.own 0)),(10,one (.int (aX n.n))),(11,one (.int k))],[.row 5 .u8 ((dv n.n k))]),J:=fun k=>k<=aX n.n,μ:=fun k=>aX n.n - k })]
def qG (l:List Sess):List (Nat × LI):=[(2,{ σ:=Nat,F:=fun k=>([(1,one (.fn 113 [] [])),(7,one (.fz (.nm .sess) (l))),(8,one (.int (l).length)),(9,one (.int k))],[]),J:=fun k=>k<=l.length/\(l.take k).all (aN)=true,μ:=fun k=>(l).length - k })]
def qh (l:List Opn):List (Nat × LI):=[(2,{ σ:=Nat,F:=fun k=>([(1,one (.fn 117 [] [])),(7,one (.fz (.nm .opn) (l))),(8,one (.int (l).length)),(9,one (.int k))],[]),J:=fun k=>k<=l.length/\(l.take k).all (aM)=true,μ:=fun k=>(l).length - k })]
theorem Ha (n:U64) (r0:List UInt8):sq aF oz (GQ n) Tryz.f143 [.c (.u64 (n).n)] [] [.c (.own 0)] [.row 5 .u8 (r0)]=((fun (q2:Nat)=>(fun (q1:Int)=>(fun (q0:Int)=>n.n<(18446744073709551616:Nat)->I64 q0->(0:Int)<=q0/\q0*(↑(1:Nat):Int)<=(140737488355328:Int)/\q0=q0/\∃ (s0:Nat),(fun (q3:Int)=>(n.n=n.n / (128:Nat) ^ s0/\q0=q0/\q0=q0/\(0:Int)=(↑s0:Int)/\List.replicate q2 (dflt Sh.u8)=dv n.n s0)/\s0<=q2/\∀ (s:Nat),(fun (q4:List UInt8)=>s<=q2->((↑s:Int)<q0->(0:Int)<=(↑s:Int)/\(↑s:Int)<(↑q4.length:Int)/\(7:Nat)<(64:Nat)/\I64 ((↑s:Int)+q1)/\∃ (s':Nat),(n.n / (128:Nat) ^ s / (2:Nat) ^ (7:Nat)=n.n / (128:Nat) ^ s' /\ q0=q0/\q0=q0/\(↑s:Int)+q1=(↑s':Int)/\q4.set s (UInt8.ofNat (n.n / (128:Nat) ^ s) ||| UInt8.ofNat (128:Nat))=dv n.n s')/\s' <= q2/\q2 - s' < q2 - s)/\(q0<=(↑s:Int)->I64 q3/\(0:Int)<=q3/\q3<(↑q4.length:Int)/\(0:Int)<=q3/\q3<(↑q4.length:Int)/\q4.set q3.toNat (q4.getD q3.toNat (dflt Sh.u8) &&& UInt8.ofNat (127:Nat))=r0)) (dv n.n s)) (q0 - q1)) (↑q2:Int)) (1:Int)) (aX n.n)):=by kernel_rfl
theorem Hd (n:U64):Sat Tryz.prog (aq aF) 143 [.c (.u64 (n).n)] [] ⟨[],[.c (.own 0)],some ([.row 5 .u8 ((ly n.n))]),true⟩:=by
 refine ew eB (GQ n) Tryz.func143 (by decide) (by kernel_rfl) ?_
 rw [Ha]
 intro hn
 have h1:=gv n.n
 have h10:=kZ hn
 (repeat' (first | with_reducible refine And.intro ?_ ?_ | with_reducible refine and_imp.2 ?_ | intro))
 all_goals try (first | (first | with_reducible rfl | with_reducible assumption | omega | (refine aj ?_ ?_ <;> omega)) | exact (gE n.n) | exact (sV (by omega)) | exact (oL (by omega) (by omega)) | exact div_pow | exact (by rw [Nat.pow_zero,Nat.div_one]) | exact (by rw [eW (by omega)]; omega))
 all_goals try (refine ⟨0,?_⟩; (repeat' (first | with_reducible refine And.intro ?_ ?_ | with_reducible refine and_imp.2 ?_ | intro)))
 all_goals try (first | (first | with_reducible rfl | with_reducible assumption | omega | (refine aj ?_ ?_ <;> omega)) | exact (gE n.n) | exact (sV (by omega)) | exact (oL (by omega) (by omega)) | exact div_pow | exact (by rw [Nat.pow_zero,Nat.div_one]) | exact (by rw [eW (by omega)]; omega))
 all_goals try (refine ⟨‹Nat› + 1,?_⟩; (repeat' (first | with_reducible refine And.intro ?_ ?_ | with_reducible refine and_imp.2 ?_ | intro)))
 all_goals (first | (first | with_reducible rfl | with_reducible assumption | omega | (refine aj ?_ ?_ <;> omega)) | exact (gE n.n) | exact (sV (by omega)) | exact (oL (by omega) (by omega)) | exact div_pow | exact (by rw [Nat.pow_zero,Nat.div_one]) | exact (by rw [eW (by omega)]; omega))
theorem wo (l:List Sess) (r0:Bool):cN aF oz (qG l) Tryz.f112 [.c (.fz (.nm .sess) (l)),.c (.fn 113 [] [])] [] [.c (.bool (.atom (r0)))]=((fun (q0:Nat)=>l.length*(32:Nat)<=(140737488355328:Nat)->∃ (s0:Nat),(l=l/\(↑l.length:Int)=(↑q0:Int)/\(0:Int)=(↑s0:Int))/\(s0<=q0/\(List.take s0 l).all aN=true)/\∀ (s:Nat),s<=q0/\(List.take s l).all aN=true->((↑s:Int)<(↑q0:Int)->(0:Int)<=(↑s:Int)/\(↑s:Int)<(↑l.length:Int)/\∀ (x:Sess),l[s]? = some x->I64 x.client->I64 x.seq->I64 x.last.code->I64 x.last.n->(aN x=false->false=r0)/\(aN x=true->I64 ((↑s:Int)+(1:Int))/\∃ (s':Nat),(l=l/\(↑q0:Int)=(↑q0:Int)/\(↑s:Int)+(1:Int)=(↑s':Int))/\(s' <= q0/\(List.take s' l).all aN=true)/\q0 - s' < q0 - s))/\((↑q0:Int)<=(↑s:Int)->true=r0)) l.length):=by kernel_rfl
theorem vK (l:List Sess):Sat Tryz.prog (aq aF) 112 [.c (.fz (.nm .sess) (l)),.c (.fn 113 [] [])] [] ⟨[],[.c (.bool (.atom ((l.all (aN)))))],none,false⟩:=by
 refine aR eB (qG l) Tryz.func112 (by decide) (by kernel_rfl) ?_
 rw [wo]
 (repeat' (first | with_reducible refine And.intro ?_ ?_ | with_reducible refine and_imp.2 ?_ | intro))
 all_goals try (first | (first | with_reducible rfl | with_reducible assumption | omega | (refine aj ?_ ?_ <;> omega)) | exact (dw (p:=aN) (by with_reducible assumption) (by with_reducible assumption) (by with_reducible assumption)) | exact (ic (p:=aN) (by with_reducible assumption) (by with_reducible assumption)) | exact (iv (p:=aN) (by with_reducible assumption) (by omega)) | exact rfl)
 all_goals try (refine ⟨0,?_⟩; (repeat' (first | with_reducible refine And.intro ?_ ?_ | with_reducible refine and_imp.2 ?_ | intro)))
 all_goals try (first | (first | with_reducible rfl | with_reducible assumption | omega | (refine aj ?_ ?_ <;> omega)) | exact (dw (p:=aN) (by with_reducible assumption) (by with_reducible assumption) (by with_reducible assumption)) | exact (ic (p:=aN) (by with_reducible assumption) (by with_reducible assumption)) | exact (iv (p:=aN) (by with_reducible assumption) (by omega)) | exact rfl)
 all_goals try (refine ⟨‹Nat› + 1,?_⟩; (repeat' (first | with_reducible refine And.intro ?_ ?_ | with_reducible refine and_imp.2 ?_ | intro)))
 all_goals (first | (first | with_reducible rfl | with_reducible assumption | omega | (refine aj ?_ ?_ <;> omega)) | exact (dw (p:=aN) (by with_reducible assumption) (by with_reducible assumption) (by with_reducible assumption)) | exact (ic (p:=aN) (by with_reducible assumption) (by with_reducible assumption)) | exact (iv (p:=aN) (by with_reducible assumption) (by omega)) | exact rfl)
theorem vG (l:List Opn) (r0:Bool):cN aF oz (qh l) Tryz.f116 [.c (.fz (.nm .opn) (l)),.c (.fn 117 [] [])] [] [.c (.bool (.atom (r0)))]=((fun (q0:Nat)=>l.length*(16:Nat)<=(140737488355328:Nat)->∃ (s0:Nat),(l=l/\(↑l.length:Int)=(↑q0:Int)/\(0:Int)=(↑s0:Int))/\(s0<=q0/\(List.take s0 l).all aM=true)/\∀ (s:Nat),s<=q0/\(List.take s l).all aM=true->((↑s:Int)<(↑q0:Int)->(0:Int)<=(↑s:Int)/\(↑s:Int)<(↑l.length:Int)/\∀ (x:Opn),l[s]? = some x->I64 x.set->I64 x.client->(aM x=false->false=r0)/\(aM x=true->I64 ((↑s:Int)+(1:Int))/\∃ (s':Nat),(l=l/\(↑q0:Int)=(↑q0:Int)/\(↑s:Int)+(1:Int)=(↑s':Int))/\(s' <= q0/\(List.take s' l).all aM=true)/\q0 - s' < q0 - s))/\((↑q0:Int)<=(↑s:Int)->true=r0)) l.length):=by kernel_rfl
theorem vv (l:List Opn):Sat Tryz.prog (aq aF) 116 [.c (.fz (.nm .opn) (l)),.c (.fn 117 [] [])] [] ⟨[],[.c (.bool (.atom ((l.all (aM)))))],none,false⟩:=by
 refine aR eB (qh l) Tryz.func116 (by decide) (by kernel_rfl) ?_
 rw [vG]
 (repeat' (first | with_reducible refine And.intro ?_ ?_ | with_reducible refine and_imp.2 ?_ | intro))
 all_goals try (first | (first | with_reducible rfl | with_reducible assumption | omega | (refine aj ?_ ?_ <;> omega)) | exact (dw (p:=aM) (by with_reducible assumption) (by with_reducible assumption) (by with_reducible assumption)) | exact (ic (p:=aM) (by with_reducible assumption) (by with_reducible assumption)) | exact (iv (p:=aM) (by with_reducible assumption) (by omega)) | exact rfl)
 all_goals try (refine ⟨0,?_⟩; (repeat' (first | with_reducible refine And.intro ?_ ?_ | with_reducible refine and_imp.2 ?_ | intro)))
 all_goals try (first | (first | with_reducible rfl | with_reducible assumption | omega | (refine aj ?_ ?_ <;> omega)) | exact (dw (p:=aM) (by with_reducible assumption) (by with_reducible assumption) (by with_reducible assumption)) | exact (ic (p:=aM) (by with_reducible assumption) (by with_reducible assumption)) | exact (iv (p:=aM) (by with_reducible assumption) (by omega)) | exact rfl)
 all_goals try (refine ⟨‹Nat› + 1,?_⟩; (repeat' (first | with_reducible refine And.intro ?_ ?_ | with_reducible refine and_imp.2 ?_ | intro)))
 all_goals (first | (first | with_reducible rfl | with_reducible assumption | omega | (refine aj ?_ ?_ <;> omega)) | exact (dw (p:=aM) (by with_reducible assumption) (by with_reducible assumption) (by with_reducible assumption)) | exact (ic (p:=aM) (by with_reducible assumption) (by with_reducible assumption)) | exact (iv (p:=aM) (by with_reducible assumption) (by omega)) | exact rfl)
theorem oW (l:List Sess) (r0:List Sess):sq aF oz [] Tryz.f80 [.c (.fz (.nm .sess) (l))] [] [.c (.own 0)] [.row 44 (.nm .sess) (r0)]=((fun (q0:Prop)=>q0->∀ (b:Bool),(b=true->l=[])->(b=true->r0=[])/\(b=false->q0/\l=r0)) (l.length*(32:Nat)<=(140737488355328:Nat))):=by kernel_rfl
theorem ph (l:List Sess):Sat Tryz.prog (aq aF) 80 [.c (.fz (.nm .sess) (l))] [] ⟨[],[.c (.own 0)],some ([.row 44 (.nm .sess) ((l))]),true⟩:=by
 refine ew eB [] Tryz.func80 (by decide) (by kernel_rfl) ?_
 rw [oW]
 exact fun h b hb=>⟨hb,fun _=>⟨h,rfl⟩⟩
theorem rH (l:List Opn) (r0:List Opn):sq aF oz [] Tryz.f81 [.c (.fz (.nm .opn) (l))] [] [.c (.own 0)] [.row 77 (.nm .opn) (r0)]=((fun (q0:Prop)=>q0->∀ (b:Bool),(b=true->l=[])->(b=true->r0=[])/\(b=false->q0/\l=r0)) (l.length*(16:Nat)<=(140737488355328:Nat))):=by kernel_rfl
theorem qK (l:List Opn):Sat Tryz.prog (aq aF) 81 [.c (.fz (.nm .opn) (l))] [] ⟨[],[.c (.own 0)],some ([.row 77 (.nm .opn) ((l))]),true⟩:=by
 refine ew eB [] Tryz.func81 (by decide) (by kernel_rfl) ?_
 rw [rH]
 exact fun h b hb=>⟨hb,fun _=>⟨h,rfl⟩⟩
theorem oD (l:List Snap) (r0:List Snap):sq aF oz [] Tryz.f82 [.c (.fz (.nm .snap) (l))] [] [.c (.own 0)] [.row 59 (.nm .snap) (r0)]=((fun (q0:Prop)=>q0->∀ (b:Bool),(b=true->l=[])->(b=true->r0=[])/\(b=false->q0/\l=r0)) (l.length*(64:Nat)<=(140737488355328:Nat))):=by kernel_rfl
theorem pj (l:List Snap):Sat Tryz.prog (aq aF) 82 [.c (.fz (.nm .snap) (l))] [] ⟨[],[.c (.own 0)],some ([.row 59 (.nm .snap) ((l))]),true⟩:=by
 refine ew eB [] Tryz.func82 (by decide) (by kernel_rfl) ?_
 rw [oD]
 exact fun h b hb=>⟨hb,fun _=>⟨h,rfl⟩⟩
theorem qA (l:List Int) (r0:List Int):cN aF oz [] Tryz.f83 [.c (.fz .int (l))] [] [.c (.fz .int (r0))]=((fun (q0:Prop)=>q0->∀ (b:Bool),(b=true->l=[])->(b=true->r0=[])/\(b=false->q0/\l=r0)) (l.length*(8:Nat)<=(140737488355328:Nat))):=by kernel_rfl
theorem qX (l:List Int):Sat Tryz.prog (aq aF) 83 [.c (.fz .int (l))] [] ⟨[],[.c (.fz .int ((l)))],none,false⟩:=by
 refine aR eB [] Tryz.func83 (by decide) (by kernel_rfl) ?_
 rw [qA]
 intros; repeat' (first | refine And.intro ?_ ?_ | intro)
 all_goals first | rfl | assumption | simp_all
def rP:ct:=(bO 83 (bI (ah (kC (cL .int)) aO) aP fun (l,_) (_)=>⟨[],[.c (.fz .int ((l)))],none,false⟩) (bO 82 (bI (ah (kC (cL (.nm .snap))) aO) aP fun (l,_) (_)=>⟨[],[.c (.own 0)],some ([.row 59 (.nm .snap) ((l))]),true⟩) (bO 81 (bI (ah (kC (cL (.nm .opn))) aO) aP fun (l,_) (_)=>⟨[],[.c (.own 0)],some ([.row 77 (.nm .opn) ((l))]),true⟩) (bO 80 (bI (ah (kC (cL (.nm .sess))) aO) aP fun (l,_) (_)=>⟨[],[.c (.own 0)],some ([.row 44 (.nm .sess) ((l))]),true⟩) (bO 116 (bI (ah (kC (cL (.nm .opn))) (ah (kC (kR 117 [] [])) aO)) aP fun (l,_,_) (_)=>⟨[],[.c (.bool (.atom ((l.all (aM)))))],none,false⟩) (bO 112 (bI (ah (kC (cL (.nm .sess))) (ah (kC (kR 113 [] [])) aO)) aP fun (l,_,_) (_)=>⟨[],[.c (.bool (.atom ((l.all (aN)))))],none,false⟩) (bO 143 (bI (ah (kC cU) aO) aP fun (n,_) (_)=>⟨[],[.c (.own 0)],some ([.row 5 .u8 ((ly n.n))]),true⟩) oz)))))))
theorem fh:aU Tryz.prog (aq aF) rP:=(ay (ax (ab (ao bF) al) ak fun (l,_) (_) _=>qX l ) (ay (ax (ab (ao bF) al) ak fun (l,_) (_) _=>pj l ) (ay (ax (ab (ao bF) al) ak fun (l,_) (_) _=>qK l ) (ay (ax (ab (ao bF) al) ak fun (l,_) (_) _=>ph l ) (ay (ax (ab (ao bF) (ab (ao bV) al)) ak fun (l,_,_) (_) _=>vv l ) (ay (ax (ab (ao bF) (ab (ao bV) al)) ak fun (l,_,_) (_) _=>vK l ) (ay (ax (ab (ao CR) al) ak fun (n,_) (_) _=>Hd n ) eB)))))))
end Go.Proofs.YtdggohppeeaipaaGreat
namespace Go.Proofs.YtdggohppeeaipaaGreat
open Go.RowKit
theorem sH {x:Int} {l:List Int} {k:Nat} (h:eT x (l.take k) = -1) (hk:l.length<=k):-1=eT x l:=by rw [List.take_of_length_le hk] at h; exact h.symm
theorem ou {x y:Int} {l:List Int} {k:Nat} (h:eT x (l.take k) = -1) (hy:l[k]? = some y) (e:x=y):(k:Int)=eT x l:=by
 refine y_ (fun j z hj hz hc=>?_) hy e
 have hm:z ∈ l.take k:=by
  obtain ⟨h1,h2⟩:=List.getElem?_eq_some_iff.1 hz
  rw [List.mem_take_iff_getElem]; exact ⟨j,by omega,h2⟩
 have:decide (0<=eT x (l.take k))=true:=by rw [uJ,List.contains_iff_mem,hc]; exact hm
 rw [decide_eq_true_eq] at this; omega
theorem te {x y:Int} {l:List Int} {k:Nat} (h:eT x (l.take k) = -1) (hy:l[k]? = some y) (e:¬ x=y):eT x (l.take (k+1)) = -1:=by
 have h0:(l.take k).contains x=false:=by
  have:=uJ x (l.take k)
  rw [<- this,h]; decide
 have h1:(l.take (k+1)).contains x=false:=by
  rw [aD hy,<- Bool.not_eq_true,List.contains_iff_mem] at *
  intro hm
  rcases List.mem_append.1 hm with hm | hm
  ·exact h0 hm
  ·exact e (List.mem_singleton.1 hm)
 rw [<- uJ,decide_eq_false_iff_not] at h1
 unfold eT at h1 ⊢
 split
 ·rename_i i hi; rw [hi] at h1; dsimp only at h1; omega
 ·rfl
theorem Fb {l:List Int} {k:Nat} {x:Int} (hr:cq l=true) (hx:l[k]? = some x):0<=x:=Int.le_of_lt (sr hr x (List.mem_of_getElem? hx)).1
theorem su {l:List Int} {k:Nat} {x:Int} (hr:cq l=true) (hx:l[k]? = some x):((dW (l.take k)).length+(ly x.toNat).length)*1<=140737488355328:=by
 have h1:=xv (l:=l.take k) (fun x hx=>(sr hr x (List.mem_of_mem_take hx)).2)
 have h2:=uI hr
 have h3:=sr hr x (List.mem_of_getElem? hx)
 have h4:=mz (n:=x.toNat) (by omega)
 rw [List.length_take] at h1; omega
def xV (l:List Int) (x:Int):List (Nat × LI):=[(2,{ σ:=Nat,F:=fun k=>([(0,one (.fz .int (l))),(1,one (.int (x))),(7,one (.int (l).length)),(8,one (.int k))],[]),J:=fun k=>k<=l.length/\eT x (l.take k) = -1,μ:=fun k=>(l).length - k })]
def uL (l:List Int):List (Nat × LI):=[(5,{ σ:=Nat,F:=fun k=>([(4,one (.own 0)),(10,one (.fz .int (l))),(11,one (.int (l).length)),(12,one (.int k))],[.row 5 .u8 ((dW (l.take k)))]),J:=fun k=>k<=l.length/\cq l=true,μ:=fun k=>(l).length - k })]
theorem BI (l:List Int) (x:Int) (r0:Int):cN aF rP (xV l x) Tryz.f144 [.c (.fz .int (l)),.c (.int (x))] [] [.c (.int (r0))]=((fun (q1:Int)=>(fun (q0:Nat)=>l.length*(8:Nat)<=(140737488355328:Nat)->I64 x->∃ (s0:Nat),(l=l/\x=x/\(↑l.length:Int)=(↑q0:Int)/\(0:Int)=(↑s0:Int))/\(s0<=q0/\eT x (List.take s0 l) = -q1)/\∀ (s:Nat),s<=q0/\eT x (List.take s l) = -q1->((↑s:Int)<(↑q0:Int)->(0:Int)<=(↑s:Int)/\(↑s:Int)<(↑l.length:Int)/\∀ (x_1:Int),l[s]? = some x_1->I64 x_1->(x=x_1->(↑s:Int)=r0)/\(¬x=x_1->I64 ((↑s:Int)+q1)/\∃ (s':Nat),(l=l/\x=x/\(↑q0:Int)=(↑q0:Int)/\(↑s:Int)+q1=(↑s':Int))/\(s' <= q0/\eT x (List.take s' l) = -q1)/\q0 - s' < q0 - s))/\((↑q0:Int)<=(↑s:Int) -> -q1=r0)) l.length) (1:Int)):=by kernel_rfl
theorem Ca (l:List Int) (x:Int):Sat Tryz.prog (aq aF) 144 [.c (.fz .int (l)),.c (.int (x))] [] ⟨[],[.c (.int ((eT x l)))],none,false⟩:=by
 refine aR fh (xV l x) Tryz.func144 (by decide) (by kernel_rfl) ?_
 rw [BI]
 (repeat' (first | with_reducible refine And.intro ?_ ?_ | with_reducible refine and_imp.2 ?_ | intro))
 all_goals try (first | (first | with_reducible rfl | with_reducible assumption | omega | (refine aj ?_ ?_ <;> omega)) | exact rfl | exact (sH (by with_reducible assumption) (by omega)) | exact (ou (by with_reducible assumption) (by with_reducible assumption) (by with_reducible assumption)) | exact (te (by with_reducible assumption) (by with_reducible assumption) (by with_reducible assumption)))
 all_goals try (refine ⟨0,?_⟩; (repeat' (first | with_reducible refine And.intro ?_ ?_ | with_reducible refine and_imp.2 ?_ | intro)))
 all_goals try (first | (first | with_reducible rfl | with_reducible assumption | omega | (refine aj ?_ ?_ <;> omega)) | exact rfl | exact (sH (by with_reducible assumption) (by omega)) | exact (ou (by with_reducible assumption) (by with_reducible assumption) (by with_reducible assumption)) | exact (te (by with_reducible assumption) (by with_reducible assumption) (by with_reducible assumption)))
 all_goals try (refine ⟨‹Nat› + 1,?_⟩; (repeat' (first | with_reducible refine And.intro ?_ ?_ | with_reducible refine and_imp.2 ?_ | intro)))
 all_goals (first | (first | with_reducible rfl | with_reducible assumption | omega | (refine aj ?_ ?_ <;> omega)) | exact rfl | exact (sH (by with_reducible assumption) (by omega)) | exact (ou (by with_reducible assumption) (by with_reducible assumption) (by with_reducible assumption)) | exact (te (by with_reducible assumption) (by with_reducible assumption) (by with_reducible assumption)))
theorem BD (n:Int) (most:Int) (named:Bool) (r0:Bool):cN aF rP [] Tryz.f138 [.c (.int (n)),.c (.int (most)),.c (.bool (.atom (named)))] [] [.c (.bool (.atom (r0)))]=(I64 n->I64 most->(named=true->(decide ((1:Int)<=n) && decide (n<=most))=r0)/\(named=false->decide (n=(0:Int))=r0)):=by kernel_rfl
theorem Bq (n:Int) (most:Int) (named:Bool):Sat Tryz.prog (aq aF) 138 [.c (.int (n)),.c (.int (most)),.c (.bool (.atom (named)))] [] ⟨[],[.c (.bool (.atom ((h_ n most named))))],none,false⟩:=by
 refine aR fh [] Tryz.func138 (by decide) (by kernel_rfl) ?_
 rw [BD]
 grind [h_]
theorem ye (l:List Int) (r0:List UInt8) (r1:Int):cN aF rP (uL l) Tryz.f135 [.c (.fz .int (l))] [] [.c (.fz .u8 (r0)),.c (.int (r1))]=((fun (q1:Prop)=>(fun (q0:Nat)=>l.length*(8:Nat)<=(140737488355328:Nat)->(cq l=false->r0=[]/\(1:Int)=r1)/\(q1->∃ (s0:Nat),(l=l/\(↑l.length:Int)=(↑q0:Int)/\(0:Int)=(↑s0:Int)/\dW (List.take s0 l)=[])/\(s0<=q0/\q1)/\∀ (s:Nat),s<=q0/\q1->((↑s:Int)<(↑q0:Int)->(0:Int)<=(↑s:Int)/\(↑s:Int)<(↑l.length:Int)/\∀ (x:Int),l[s]? = some x->I64 x->(0:Int)<=x/\((dW (List.take s l)).length+(ly x.toNat).length)*(1:Nat)<=(140737488355328:Nat)/\I64 ((↑s:Int)+(1:Int))/\∃ (s':Nat),(l=l/\(↑q0:Int)=(↑q0:Int)/\(↑s:Int)+(1:Int)=(↑s':Int)/\dW (List.take s l)++ly x.toNat=dW (List.take s' l))/\(s' <= q0/\q1)/\q0 - s' < q0 - s)/\((↑q0:Int)<=(↑s:Int)->dW (List.take s l)=r0/\(0:Int)=r1))) l.length) (cq l=true)):=by kernel_rfl
theorem zr (l:List Int):Sat Tryz.prog (aq aF) 135 [.c (.fz .int (l))] [] ⟨[],[.c (.fz .u8 ((fi l))),.c (.int ((cR l)))],none,false⟩:=by
 refine aR fh (uL l) Tryz.func135 (by decide) (by kernel_rfl) ?_
 rw [ye]
 (repeat' (first | with_reducible refine And.intro ?_ ?_ | with_reducible refine and_imp.2 ?_ | intro))
 all_goals try (first | (first | with_reducible rfl | with_reducible assumption | omega | (refine aj ?_ ?_ <;> omega)) | exact rfl | exact (jL (by with_reducible assumption)).symm | exact (fk (by with_reducible assumption)) | exact (fK (by with_reducible assumption)) | exact (lC (by with_reducible assumption) (by omega)) | exact (jH (by with_reducible assumption)) | exact (Fb (by with_reducible assumption) (by with_reducible assumption)) | exact (su (by with_reducible assumption) (by with_reducible assumption)))
 all_goals try (refine ⟨0,?_⟩; (repeat' (first | with_reducible refine And.intro ?_ ?_ | with_reducible refine and_imp.2 ?_ | intro)))
 all_goals try (first | (first | with_reducible rfl | with_reducible assumption | omega | (refine aj ?_ ?_ <;> omega)) | exact rfl | exact (jL (by with_reducible assumption)).symm | exact (fk (by with_reducible assumption)) | exact (fK (by with_reducible assumption)) | exact (lC (by with_reducible assumption) (by omega)) | exact (jH (by with_reducible assumption)) | exact (Fb (by with_reducible assumption) (by with_reducible assumption)) | exact (su (by with_reducible assumption) (by with_reducible assumption)))
 all_goals try (refine ⟨‹Nat› + 1,?_⟩; (repeat' (first | with_reducible refine And.intro ?_ ?_ | with_reducible refine and_imp.2 ?_ | intro)))
 all_goals (first | (first | with_reducible rfl | with_reducible assumption | omega | (refine aj ?_ ?_ <;> omega)) | exact rfl | exact (jL (by with_reducible assumption)).symm | exact (fk (by with_reducible assumption)) | exact (fK (by with_reducible assumption)) | exact (lC (by with_reducible assumption) (by omega)) | exact (jH (by with_reducible assumption)) | exact (Fb (by with_reducible assumption) (by with_reducible assumption)) | exact (su (by with_reducible assumption) (by with_reducible assumption)))
theorem Ah (s:State) (x:Int) (r0:Int):cN aF rP [] Tryz.f35 [.agg (cellsOf (.nm .state) s),.c (.int (x))] [] [.c (.int (r0))]=(I64 s.version->I64 s.next->I64 s.keep->I64 s.quota->s.sess.length*(32:Nat)<=(140737488355328:Nat)->s.opens.length*(16:Nat)<=(140737488355328:Nat)->s.snaps.length*(64:Nat)<=(140737488355328:Nat)->I64 x->I64 (au Sess.client x s.sess)->au Sess.client x s.sess=r0):=by kernel_rfl
theorem xP (s:State) (x:Int):Sat Tryz.prog (aq aF) 35 [.agg (cellsOf (.nm .state) s),.c (.int (x))] [] ⟨[],[.c (.int ((au Sess.client x s.sess)))],none,false⟩:=by
 refine aR fh [] Tryz.func35 (by decide) (by kernel_rfl) ?_
 rw [Ah]
 grind
theorem xF (s:State) (x:Int) (r0:Int):cN aF rP [] Tryz.f91 [.agg (cellsOf (.nm .state) s),.c (.int (x))] [] [.c (.int (r0))]=(I64 s.version->I64 s.next->I64 s.keep->I64 s.quota->s.sess.length*(32:Nat)<=(140737488355328:Nat)->s.opens.length*(16:Nat)<=(140737488355328:Nat)->s.snaps.length*(64:Nat)<=(140737488355328:Nat)->I64 x->I64 (au Opn.set x s.opens)->au Opn.set x s.opens=r0):=by kernel_rfl
theorem yb (s:State) (x:Int):Sat Tryz.prog (aq aF) 91 [.agg (cellsOf (.nm .state) s),.c (.int (x))] [] ⟨[],[.c (.int ((au Opn.set x s.opens)))],none,false⟩:=by
 refine aR fh [] Tryz.func91 (by decide) (by kernel_rfl) ?_
 rw [xF]
 grind
theorem zi (s:State) (x:Int) (r0:Int):cN aF rP [] Tryz.f43 [.agg (cellsOf (.nm .state) s),.c (.int (x))] [] [.c (.int (r0))]=(I64 s.version->I64 s.next->I64 s.keep->I64 s.quota->s.sess.length*(32:Nat)<=(140737488355328:Nat)->s.opens.length*(16:Nat)<=(140737488355328:Nat)->s.snaps.length*(64:Nat)<=(140737488355328:Nat)->I64 x->I64 (au Snap.id x s.snaps)->au Snap.id x s.snaps=r0):=by kernel_rfl
theorem xZ (s:State) (x:Int):Sat Tryz.prog (aq aF) 43 [.agg (cellsOf (.nm .state) s),.c (.int (x))] [] ⟨[],[.c (.int ((au Snap.id x s.snaps)))],none,false⟩:=by
 refine aR fh [] Tryz.func43 (by decide) (by kernel_rfl) ?_
 rw [zi]
 grind
def Cc:ct:=(bO 43 (bI (ah (kT (.nm .state)) (ah (kC cI) aO)) aP fun (s,x,_) (_)=>⟨[],[.c (.int ((au Snap.id x s.snaps)))],none,false⟩) (bO 91 (bI (ah (kT (.nm .state)) (ah (kC cI) aO)) aP fun (s,x,_) (_)=>⟨[],[.c (.int ((au Opn.set x s.opens)))],none,false⟩) (bO 35 (bI (ah (kT (.nm .state)) (ah (kC cI) aO)) aP fun (s,x,_) (_)=>⟨[],[.c (.int ((au Sess.client x s.sess)))],none,false⟩) (bO 135 (bI (ah (kC (cL .int)) aO) aP fun (l,_) (_)=>⟨[],[.c (.fz .u8 ((fi l))),.c (.int ((cR l)))],none,false⟩) (bO 138 (bI (ah (kC cI) (ah (kC cI) (ah (kC cB) aO))) aP fun (n,most,named,_) (_)=>⟨[],[.c (.bool (.atom ((h_ n most named))))],none,false⟩) (bO 144 (bI (ah (kC (cL .int)) (ah (kC cI) aO)) aP fun (l,x,_) (_)=>⟨[],[.c (.int ((eT x l)))],none,false⟩) rP))))))
theorem px:aU Tryz.prog (aq aF) Cc:=(ay (ax (ab bM (ab (ao av) al)) ak fun (s,x,_) (_) _=>xZ s x ) (ay (ax (ab bM (ab (ao av) al)) ak fun (s,x,_) (_) _=>yb s x ) (ay (ax (ab bM (ab (ao av) al)) ak fun (s,x,_) (_) _=>xP s x ) (ay (ax (ab (ao bF) al) ak fun (l,_) (_) _=>zr l ) (ay (ax (ab (ao av) (ab (ao av) (ab (ao pF) al))) ak fun (n,most,named,_) (_) _=>Bq n most named ) (ay (ax (ab (ao bF) (ab (ao av) al)) ak fun (l,x,_) (_) _=>Ca l x ) fh))))))
end Go.Proofs.YtdggohppeeaipaaGreat
namespace Go.Proofs.YtdggohppeeaipaaGreat
open Go.RowKit
theorem sL (l:List Int) (x:Int) (r0:Bool):cN aF Cc [] Tryz.f137 [.c (.fz .int (l)),.c (.int (x))] [] [.c (.bool (.atom (r0)))]=(l.length*(8:Nat)<=(140737488355328:Nat)->I64 x->I64 (eT x l)->decide ((0:Int)<=eT x l)=r0):=by kernel_rfl
theorem sm (l:List Int) (x:Int):Sat Tryz.prog (aq aF) 137 [.c (.fz .int (l)),.c (.int (x))] [] ⟨[],[.c (.bool (.atom ((l.contains x))))],none,false⟩:=by
 refine aR px [] Tryz.func137 (by decide) (by kernel_rfl) ?_
 rw [sL]
 intros; exact uJ _ _
theorem yW (x:Snap) (v:Int) (t:Int) (r0:Bool):cN aF Cc [] Tryz.f134 [.agg (cellsOf (.nm .snap) x),.c (.ptr 0 0),.c (.ptr 1 0)] [.box 3 ([.int (v)]),.box 3 ([.int (t)])] [.c (.bool (.atom (r0)))]=(I64 x.id->I64 x.set->x.chunks.length*(8:Nat)<=(140737488355328:Nat)->x.tag.b.length<=(140737488355328:Nat)->(fi x.chunks).length*(1:Nat)<=(140737488355328:Nat)->I64 (cR x.chunks)->(decide (cR x.chunks=(0:Int)) && ba x.set (1:Int) (8:Int) && (!x.held || decide ((2:Int)<=v)) && decide ((↑x.tag.b.length:Int)<=t))=r0):=by kernel_rfl
theorem yA (x:Snap) (v:Int) (t:Int):Sat Tryz.prog (aq aF) 134 [.agg (cellsOf (.nm .snap) x),.c (.ptr 0 0),.c (.ptr 1 0)] [.box 3 ([.int (v)]),.box 3 ([.int (t)])] ⟨[],[.c (.bool (.atom ((bl v t x))))],none,false⟩:=by
 refine aR px [] Tryz.func134 (by decide) (by kernel_rfl) ?_
 rw [yW]
 intros; rfl
def Bz:ct:=(bO 134 (bI (ah (kT (.nm .snap)) (ah (kC (bN 0 0)) (ah (kC (bN 1 0)) aO))) (az (bL 3 (ai cI bH)) (az (bL 3 (ai cI bH)) aP)) fun (x,_,_,_) ((v,_),(t,_),_)=>⟨[],[.c (.bool (.atom ((bl v t x))))],none,false⟩) (bO 137 (bI (ah (kC (cL .int)) (ah (kC cI) aO)) aP fun (l,x,_) (_)=>⟨[],[.c (.bool (.atom ((l.contains x))))],none,false⟩) Cc))
theorem nY:aU Tryz.prog (aq aF) Bz:=(ay (ax (ab bM (ab (ao aJ) (ab (ao aJ) al))) (ag (aH (ae av aG)) (ag (aH (ae av aG)) ak)) fun (x,_,_,_) ((v,_),(t,_),_) _=>yA x v t ) (ay (ax (ab (ao bF) (ab (ao av) al)) ak fun (l,x,_) (_) _=>sm l x ) px))
end Go.Proofs.YtdggohppeeaipaaGreat
namespace Go.Proofs.YtdggohppeeaipaaGreat
open Go.RowKit
def qE (l:List Snap) (v:Int) (t:Int):List (Nat × LI):=[(2,{ σ:=Nat,F:=fun k=>([(1,one (.fn 134 [] [(0,0),(1,0)])),(7,one (.fz (.nm .snap) (l))),(8,one (.int (l).length)),(9,one (.int k))],[.box 3 ([.int ((v))]),.box 3 ([.int ((t))])]),J:=fun k=>k<=l.length/\(l.take k).all ((bl v t))=true,μ:=fun k=>(l).length - k })]
theorem Bk (l:List Int) (c:Command) (r0:Bool):cN aF Bz [] Tryz.f136 [.c (.fz .int (l)),.c (.ptr 0 0)] [.box 29 (cellsOf (.nm .command) (c))] [.c (.bool (.atom (r0)))]=(l.length*(8:Nat)<=(140737488355328:Nat)->l.contains c.kind=r0):=by kernel_rfl
theorem Bi (l:List Int) (c:Command):Sat Tryz.prog (aq aF) 136 [.c (.fz .int (l)),.c (.ptr 0 0)] [.box 29 (cellsOf (.nm .command) (c))] ⟨[],[.c (.bool (.atom ((l.contains c.kind))))],none,false⟩:=by
 refine aR nY [] Tryz.func136 (by decide) (by kernel_rfl) ?_
 rw [Bk]
 grind
theorem vm (l:List Snap) (v:Int) (t:Int) (r0:Bool):cN aF Bz (qE l v t) Tryz.f133 [.c (.fz (.nm .snap) (l)),.c (.fn 134 [] [(0,0),(1,0)])] [.box 3 ([.int (v)]),.box 3 ([.int (t)])] [.c (.bool (.atom (r0)))]=((fun (q0:Nat)=>l.length*(64:Nat)<=(140737488355328:Nat)->∃ (s0:Nat),(l=l/\(↑l.length:Int)=(↑q0:Int)/\(0:Int)=(↑s0:Int)/\v=v/\t=t)/\(s0<=q0/\(List.take s0 l).all (bl v t)=true)/\∀ (s:Nat),s<=q0/\(List.take s l).all (bl v t)=true->((↑s:Int)<(↑q0:Int)->(0:Int)<=(↑s:Int)/\(↑s:Int)<(↑l.length:Int)/\∀ (x:Snap),l[s]? = some x->I64 x.id->I64 x.set->x.chunks.length*(8:Nat)<=(140737488355328:Nat)->x.tag.b.length<=(140737488355328:Nat)->(bl v t x=false->false=r0)/\(bl v t x=true->I64 ((↑s:Int)+(1:Int))/\∃ (s':Nat),(l=l/\(↑q0:Int)=(↑q0:Int)/\(↑s:Int)+(1:Int)=(↑s':Int)/\v=v/\t=t)/\(s' <= q0/\(List.take s' l).all (bl v t)=true)/\q0 - s' < q0 - s))/\((↑q0:Int)<=(↑s:Int)->true=r0)) l.length):=by kernel_rfl
theorem vU (l:List Snap) (v:Int) (t:Int):Sat Tryz.prog (aq aF) 133 [.c (.fz (.nm .snap) (l)),.c (.fn 134 [] [(0,0),(1,0)])] [.box 3 ([.int (v)]),.box 3 ([.int (t)])] ⟨[],[.c (.bool (.atom ((l.all ((bl v t))))))],none,false⟩:=by
 refine aR nY (qE l v t) Tryz.func133 (by decide) (by kernel_rfl) ?_
 rw [vm]
 (repeat' (first | with_reducible refine And.intro ?_ ?_ | with_reducible refine and_imp.2 ?_ | intro))
 all_goals try (first | (first | with_reducible rfl | with_reducible assumption | omega | (refine aj ?_ ?_ <;> omega)) | exact (dw (p:=(bl v t)) (by with_reducible assumption) (by with_reducible assumption) (by with_reducible assumption)) | exact (ic (p:=(bl v t)) (by with_reducible assumption) (by with_reducible assumption)) | exact (iv (p:=(bl v t)) (by with_reducible assumption) (by omega)) | exact rfl)
 all_goals try (refine ⟨0,?_⟩; (repeat' (first | with_reducible refine And.intro ?_ ?_ | with_reducible refine and_imp.2 ?_ | intro)))
 all_goals try (first | (first | with_reducible rfl | with_reducible assumption | omega | (refine aj ?_ ?_ <;> omega)) | exact (dw (p:=(bl v t)) (by with_reducible assumption) (by with_reducible assumption) (by with_reducible assumption)) | exact (ic (p:=(bl v t)) (by with_reducible assumption) (by with_reducible assumption)) | exact (iv (p:=(bl v t)) (by with_reducible assumption) (by omega)) | exact rfl)
 all_goals try (refine ⟨‹Nat› + 1,?_⟩; (repeat' (first | with_reducible refine And.intro ?_ ?_ | with_reducible refine and_imp.2 ?_ | intro)))
 all_goals (first | (first | with_reducible rfl | with_reducible assumption | omega | (refine aj ?_ ?_ <;> omega)) | exact (dw (p:=(bl v t)) (by with_reducible assumption) (by with_reducible assumption) (by with_reducible assumption)) | exact (ic (p:=(bl v t)) (by with_reducible assumption) (by with_reducible assumption)) | exact (iv (p:=(bl v t)) (by with_reducible assumption) (by omega)) | exact rfl)
def Bb:ct:=(bO 133 (bI (ah (kC (cL (.nm .snap))) (ah (kC (kR 134 [] [(0,0),(1,0)])) aO)) (az (bL 3 (ai cI bH)) (az (bL 3 (ai cI bH)) aP)) fun (l,_,_) ((v,_),(t,_),_)=>⟨[],[.c (.bool (.atom ((l.all ((bl v t))))))],none,false⟩) (bO 136 (bI (ah (kC (cL .int)) (ah (kC (bN 0 0)) aO)) (az (bL 29 (pA (.nm .command) bH)) aP) fun (l,_,_) ((c,_),_)=>⟨[],[.c (.bool (.atom ((l.contains c.kind))))],none,false⟩) Bz))
theorem oS:aU Tryz.prog (aq aF) Bb:=(ay (ax (ab (ao bF) (ab (ao bV) al)) (ag (aH (ae av aG)) (ag (aH (ae av aG)) ak)) fun (l,_,_) ((v,_),(t,_),_) _=>vU l v t ) (ay (ax (ab (ao bF) (ab (ao aJ) al)) (ag (aH (cS aG)) ak) fun (l,_,_) ((c,_),_) _=>Bi l c ) nY))
end Go.Proofs.YtdggohppeeaipaaGreat
namespace Go.Proofs.YtdggohppeeaipaaGreat
open Go.RowKit
theorem FW (k:Int):(if k=12 then some (Span.mk 0 64) else if k=8 then some (Span.mk 2 3) else if k=6 then some (Span.mk 0 8) else none).getD (dflt (.nm .span))=⟨(me k).1,(me k).2⟩:=by
 by_cases h1:k=12
 ·subst h1; rfl
 ·by_cases h2:k=8
  ·subst h2; rfl
  ·by_cases h3:k=6
   ·subst h3; rfl
   ·simp [me,qH,h1,h2,h3,dflt]; rfl
theorem Dv (c:Command) (r0:Bool):cN aF Bb [] Tryz.f121 [.agg (cellsOf (.nm .command) c)] [] [.c (.bool (.atom (r0)))]=((fun (q9:Int)=>(fun (q8:Int)=>(fun (q7:Prop)=>(fun (q6:Bool)=>(fun (q5:Bool)=>(fun (q4:Bool)=>(fun (q3:Prop)=>(fun (q2:Prop)=>(fun (q1:Prop)=>(fun (q0:den (Sh.nm NT.span))=>I64 q8->I64 c.client->I64 c.seq->I64 c.set->I64 c.id->I64 c.n->c.chunks.length*(8:Nat)<=(140737488355328:Nat)->c.text.b.length<=(140737488355328:Nat)->(q8=(3:Int)->((decide (q0.lo<=c.n) && decide (c.n<=q0.hi))=true->(cq c.chunks=true->(q7->q1)/\(¬q7->q2))/\(cq c.chunks=false->q2))/\((decide (q0.lo<=c.n) && decide (c.n<=q0.hi))=false->q2))/\(¬q8=(3:Int)->(q8=(11:Int)->((decide (q0.lo<=c.n) && decide (c.n<=q0.hi))=true->(q3->((↑c.text.b.length:Int)<=(16:Int)->q1)/\((16:Int)<(↑c.text.b.length:Int)->q2))/\(¬q3->q2))/\((decide (q0.lo<=c.n) && decide (c.n<=q0.hi))=false->q2))/\(¬q8=(11:Int)->((decide (q0.lo<=c.n) && decide (c.n<=q0.hi))=true->(q3->(q7->q1)/\(¬q7->q2))/\(¬q3->q2))/\((decide (q0.lo<=c.n) && decide (c.n<=q0.hi))=false->q2)))) (((fun (j:Int)=>if j=(12:Int) then some (Span.mk (0:Int) (64:Int)) else (fun (j:Int)=>if j=q9 then some (Span.mk (2:Int) (3:Int)) else (fun (j:Int)=>if j=(6:Int) then some (Span.mk (0:Int) q9) else (fun (_:Int)=>none) j) j) j) q8).getD (dflt (Sh.nm NT.span)))) ((q6=true->(q5=true->(q4=true->h_ c.id (1048576:Int) ([(5:Int),(7:Int),(9:Int),(10:Int),(11:Int)].contains q8)=r0)/\(q4=false->q2))/\(q5=false->q2))/\(q6=false->q2))) (false=r0)) ((↑c.chunks.length:Int)=(0:Int))) (h_ c.set q9 ([(2:Int),(3:Int),(4:Int)].contains q8))) (h_ c.seq (1048576:Int) ![(1:Int),q9].contains q8)) (h_ c.client q9 ![q9].contains q8)) (c.text=Str.mk [])) c.kind) (8:Int)):=by kernel_rfl
theorem Fj (c:Command):Sat Tryz.prog (aq aF) 121 [.agg (cellsOf (.nm .command) c)] [] ⟨[],[.c (.bool (.atom ((gz c))))],none,false⟩:=by
 refine aR oS [] Tryz.func121 (by decide) (by kernel_rfl) ?_
 rw [Dv]
 simp only [FW]
 (repeat' (first | with_reducible refine And.intro ?_ ?_ | with_reducible refine and_imp.2 ?_ | intro))
 all_goals ((unfold gz HL HI; simp_all) <;> (intros; omega))
theorem AT (s:State) (v:Int) (r0:Bool):cN aF Bb [] Tryz.f118 [.agg (cellsOf (.nm .state) s),.c (.int (v))] [] [.c (.bool (.atom (r0)))]=((fun (q1:Nat)=>(fun (q0:Int)=>I64 s.version->I64 s.next->I64 s.keep->I64 s.quota->s.sess.length*(32:Nat)<=(140737488355328:Nat)->s.opens.length*(16:Nat)<=(140737488355328:Nat)->q1*(64:Nat)<=(140737488355328:Nat)->I64 v->((↑q1:Int)<=(16:Int)->I64 q0/\q0<=(1048576:Int))/\((16:Int)<(↑q1:Int)\/aw Snap.id q0 (0:Int) s.snaps=false->false=r0)/\((↑q1:Int)<=(16:Int)/\aw Snap.id q0 (0:Int) s.snaps=true->(v<(3:Int)->s.snaps.all (bl v (0:Int))=r0)/\((3:Int)<=v->s.snaps.all (bl v (16:Int))=r0))) (s.next - (1:Int))) s.snaps.length):=by kernel_rfl
theorem Ci (s:State) (v:Int) (h0:1<=s.next/\s.next<=1048576):Sat Tryz.prog (aq aF) 118 [.agg (cellsOf (.nm .state) s),.c (.int (v))] [] ⟨[1<=s.next/\s.next<=1048576],[.c (.bool (.atom ((cK s v))))],none,false⟩:=by
 refine aR oS [] Tryz.func118 (by decide) (by kernel_rfl) ?_
 rw [AT]
 (repeat' (first | with_reducible refine And.intro ?_ ?_ | with_reducible refine and_imp.2 ?_ | intro))
 all_goals (first | (first | with_reducible rfl | with_reducible assumption | omega | (refine aj ?_ ?_ <;> omega)) | ((simp only [cK,eE]; simp_all) <;> (intros; omega)) | (simp only [cK,eE]; grind))
def Ct:ct:=(bO 118 (bI (ah (kT (.nm .state)) (ah (kC cI) aO)) aP fun (s,v,_) (_)=>⟨[1<=s.next/\s.next<=1048576],[.c (.bool (.atom ((cK s v))))],none,false⟩) (bO 121 (bI (ah (kT (.nm .command)) aO) aP fun (c,_) (_)=>⟨[],[.c (.bool (.atom ((gz c))))],none,false⟩) Bb))
theorem py:aU Tryz.prog (aq aF) Ct:=(ay (ax (ab bM (ab (ao av) al)) ak fun (s,v,_) (_) hp=>Ci s v (eI hp)) (ay (ax (ab bM al) ak fun (c,_) (_) _=>Fj c ) oS))
end Go.Proofs.YtdggohppeeaipaaGreat
namespace Go.Proofs.YtdggohppeeaipaaGreat
open Go.RowKit
def cH (s:State) (at_:Nat) (k:Nat):Int:=(((s.snaps.drop (at_+1)).take k).filter fun x=>decide (x.set=(s.snaps.getD at_ (dflt (.nm .snap))).set)).length
def iY (s:State) (at_:Int):Bool:=if at_<0\/(s.snaps.length:Int)<=at_ then false else decide (cH s at_.toNat s.snaps.length<s.keep)
def nch (l:List Snap):Nat:=(l.flatMap Snap.chunks).length
def s_ (c:Int) (l:List Snap):Nat:=(l.flatMap Snap.chunks).count c
def bb (id:Int) (l:List Snap):List Snap:=l.filter fun x=>!decide (x.id=id)
theorem gd {α:Type} {l:List α} {k:Nat} {d:α} (h:(k:Int)<l.length):l[k]? = some (l.getD k d):=by
 have hk:k<l.length:=by omega
 rw [List.getD_eq_getElem?_getD,List.getElem?_eq_getElem hk]; rfl
theorem nP {l:List Int} {k:Nat} (h:aw id 64 0 (l.take k)=true) (hk:(k:Int)<l.length) (hb:ba (l.getD k (dflt .int)) 1 64=true/\((k:Int)<=0\/l.getD ((k:Int) - 1).toNat (dflt .int)<l.getD k (dflt .int))):aw id 64 0 (l.take (k+1))=true:=by
 have h1:=nO hb.1
 refine fS (key:=id) h (gd hk) ?_ h1.2
 by_cases h0:k=0
 ·subst h0; show (0:Int)<l.getD 0 (dflt .int); omega
 ·rw [eY (by omega) (gd (d:=dflt .int) (by omega))]
  have:=hb.2.resolve_left (by omega)
  rwa [show ((k:Int) - 1).toNat=k - 1 by omega] at this
theorem n_ {l:List Int} {k:Nat} (hk:(k:Int)<l.length) (hb:ba (l.getD k (dflt .int)) 1 64=false\/0<(k:Int)/\l.getD k (dflt .int)<=l.getD ((k:Int) - 1).toNat (dflt .int)) (h:aw id 64 0 (l.take k)=true):false=cq l:=by
 refine gr (gd (d:=dflt .int) hk) fun h2=>?_
 rcases hb with hb | ⟨h3,h4⟩
 ·have h5:=Is hb
  have:=wN h
  omega
 ·rw [eY (by omega) (gd (d:=dflt .int) (by omega))] at h2
  rw [show ((k:Int) - 1).toNat=k - 1 by omega] at h4
  have:=h2.1
  dsimp only [id] at this
  omega
theorem sK {s:State} {a:Nat}:0=cH s a 0:=by simp [cH]
theorem Ce {s:State} {a k:Nat}:cH s a k<=(k:Int):=by
 have h1:=List.length_filter_le (fun x:Snap=>decide (x.set=(s.snaps.getD a (dflt (.nm .snap))).set)) ((s.snaps.drop (a+1)).take k)
 have h2:((s.snaps.drop (a+1)).take k).length<=k:=by rw [List.length_take]; omega
 unfold cH; omega
theorem AP {s:State} {a k:Nat}:0<=cH s a k:=by unfold cH; omega
theorem sY {s:State} {a k:Nat} (h:a+1+k<=s.snaps.length) (h2:s.snaps.length*64<=140737488355328):I64 (cH s a k+1):=by
 have h1:=Ce (s:=s) (a:=a) (k:=k)
 have h0:=AP (s:=s) (a:=a) (k:=k)
 constructor <;> omega
theorem sR {s:State} {a k:Nat} {x:Snap} (hx:(s.snaps.drop (a+1))[k]? = some x) (h:x.set=(s.snaps.getD a (dflt (.nm .snap))).set):cH s a k+1=cH s a (k+1):=by
 unfold cH
 rw [aD hx,List.filter_append,List.length_append]
 simp [h]
theorem sP {s:State} {a k:Nat} {x:Snap} (hx:(s.snaps.drop (a+1))[k]? = some x) (h:¬ x.set=(s.snaps.getD a (dflt (.nm .snap))).set):cH s a k=cH s a (k+1):=by
 unfold cH
 rw [aD hx,List.filter_append,List.length_append]
 rw [show List.filter (fun x:Snap=>decide (x.set=(s.snaps.getD a (dflt (.nm .snap))).set)) [x]=[] by simp only [List.filter_cons,h,decide_false,List.filter_nil]; rfl]
 simp
theorem mJ {s:State} {a:Int} {k:Nat} (h0:0<=a) (ha:a<s.snaps.length) (h:(s.snaps.length:Int)<=a+1+k):decide (cH s a.toNat k<s.keep)=iY s a:=by
 unfold iY
 rw [if_neg (by omega)]
 have e:∀ m:Nat,(s.snaps.length:Int)<=a+1+m->cH s a.toNat m=cH s a.toNat s.snaps.length:=fun m hm=>by
  unfold cH
  rw [List.take_of_length_le (by rw [List.length_drop]; omega),List.take_of_length_le (by rw [List.length_drop]; omega)]
 rw [e k h]
theorem lj {s:State} {a:Int} (h:a<0\/(s.snaps.length:Int)<=a):false=iY s a:=by unfold iY; rw [if_pos h]
theorem zy {id:Int} {l:List Snap} {k:Nat} {x y:Snap} (h:¬ x.id=id) (hx:l[k]? = some x) (hy:l[k]? = some y):bb id (l.take k)++[y]=bb id (l.take (k+1)):=by
 rw [hx] at hy; cases hy
 unfold bb; rw [aD hx,List.filter_append]; simp [h]
theorem Ag {id:Int} {l:List Snap} {k:Nat} {x:Snap} (hx:l[k]? = some x) (h:x.id=id):bb id (l.take k)=bb id (l.take (k+1)):=by
 unfold bb; rw [aD hx,List.filter_append]; simp [h]
theorem tz {id:Int} {l:List Snap} {k:Nat} (h:(l.length:Int)<=k):bb id (l.take k)=bb id l:=by rw [List.take_of_length_le (by omega)]
theorem sT {id:Int} {l:List Snap} {k:Nat} {x:Snap} (h:(k:Int)<l.length) (hl:l.length*64<=140737488355328):((bb id (l.take k)).length+[x].length)*64<=140737488355328:=by
 have h1:=List.length_filter_le (fun x:Snap=>!decide (x.id=id)) (l.take k)
 rw [List.length_take] at h1
 unfold bb
 simp only [List.length_cons,List.length_nil]
 omega
def CM (l:List Int):List (Nat × LI):=[(2,{ σ:=Nat,F:=fun k=>([(0,one (.fz .int (l))),(3,one (.int k))],[]),J:=fun k=>k<=l.length/\aw id 64 0 (l.take k)=true,μ:=fun k=>l.length - k })]
def Dl (st:State) (at_:Int):List (Nat × LI):=[(5,{ σ:=Nat,F:=fun k=>([(1,one (.int (at_))),(2,one (.ptr 0 0)),(5,one (.int (cH st at_.toNat k))),(21,one (.fz (.nm .snap) (st.snaps.drop (at_+1).toNat))),(22,one (.int (st.snaps.drop (at_+1).toNat).length)),(23,one (.int k))],[.box 26 (cellsOf (.nm .state) ((st)))]),J:=fun k=>at_.toNat+1+k<=st.snaps.length/\0<=at_,μ:=fun k=>st.snaps.length - k })]
theorem Ff (l:List Int) (r0:Bool):cN aF Ct (CM l) Tryz.f72 [.c (.fz .int (l))] [] [.c (.bool (.atom (r0)))]=((fun (q4:Int)=>(fun (q3:Int)=>(fun (q2:den Sh.int)=>(fun (q1:Int)=>(fun (q0:Int)=>l.length*(8:Nat)<=(140737488355328:Nat)->∃ (s0:Nat),(l=l/\q1=(↑s0:Int))/\(s0<=l.length/\aw id q4 q1 (List.take s0 l)=true)/\∀ (s:Nat),(fun (q7:den Sh.int)=>(fun (q6:Int)=>(fun (q5:Prop)=>s<=l.length/\aw id q4 q1 (List.take s l)=true->(q6<q3->q1<=q6/\q6<q3/\(q5->q1<=q6/\q6<q3)/\(q5->I64 (q6 - q0))/\(q5->q1<=q6 - q0/\q6 - q0<q3)/\(I64 q7->(q5->I64 q7)->(q5->I64 (l.getD (q6 - q0).toNat q2))->(ba q7 q0 q4=false\/q1<q6/\q7<=l.getD (q6 - q0).toNat q2->false=r0)/\(ba q7 q0 q4=true/\(q6<=q1\/l.getD (q6 - q0).toNat q2<q7)->I64 (q6+q0)/\∃ (s':Nat),(l=l/\q6+q0=(↑s':Int))/\(s' <= l.length/\aw id q4 q1 (List.take s' l)=true)/\l.length - s' < l.length - s)))/\(q3<=q6->(decide (q0<=q3) && decide (q3<=(8:Int)))=r0)) (ba q7 q0 q4=true/\q1<q6)) (↑s:Int)) (l.getD s q2)) (1:Int)) (0:Int)) (dflt Sh.int)) (↑l.length:Int)) (64:Int)):=by kernel_rfl
theorem DI (l:List Int):Sat Tryz.prog (aq aF) 72 [.c (.fz .int (l))] [] ⟨[],[.c (.bool (.atom ((cq l))))],none,false⟩:=by
 refine aR py (CM l) Tryz.func72 (by decide) (by kernel_rfl) ?_
 rw [Ff]
 (repeat' (first | with_reducible refine And.intro ?_ ?_ | with_reducible refine and_imp.2 ?_ | intro))
 all_goals try (first | (first | with_reducible rfl | with_reducible assumption | omega | (refine aj ?_ ?_ <;> omega)) | exact rfl | exact (nP (by with_reducible assumption) (by omega) (And.intro (by with_reducible assumption) (by assumption))) | exact (n_ (by omega) (by assumption) (by with_reducible assumption)) | exact (jD (by with_reducible assumption) (by omega)))
 all_goals try (refine ⟨0,?_⟩; (repeat' (first | with_reducible refine And.intro ?_ ?_ | with_reducible refine and_imp.2 ?_ | intro)))
 all_goals try (first | (first | with_reducible rfl | with_reducible assumption | omega | (refine aj ?_ ?_ <;> omega)) | exact rfl | exact (nP (by with_reducible assumption) (by omega) (And.intro (by with_reducible assumption) (by assumption))) | exact (n_ (by omega) (by assumption) (by with_reducible assumption)) | exact (jD (by with_reducible assumption) (by omega)))
 all_goals try (refine ⟨‹Nat› + 1,?_⟩; (repeat' (first | with_reducible refine And.intro ?_ ?_ | with_reducible refine and_imp.2 ?_ | intro)))
 all_goals (first | (first | with_reducible rfl | with_reducible assumption | omega | (refine aj ?_ ?_ <;> omega)) | exact rfl | exact (nP (by with_reducible assumption) (by omega) (And.intro (by with_reducible assumption) (by assumption))) | exact (n_ (by omega) (by assumption) (by with_reducible assumption)) | exact (jD (by with_reducible assumption) (by omega)))
theorem EZ (st:State) (at_:Int) (r0:Bool):cN aF Ct (Dl st at_) Tryz.f98 [.agg (cellsOf (.nm .state) st),.c (.int (at_))] [] [.c (.bool (.atom (r0)))]=((fun (q8:Int)=>(fun (q7:Nat)=>(fun (q6:den (Sh.nm NT.snap))=>(fun (q5:Int)=>(fun (q4:Prop)=>(fun (q3:Nat)=>(fun (q2:List Snap)=>(fun (q1:Nat)=>(fun (q0:Prop)=>I64 st.version->I64 st.next->I64 st.keep->I64 st.quota->st.sess.length*(32:Nat)<=q7->st.opens.length*(16:Nat)<=q7->q2.length*(64:Nat)<=q7->I64 at_->(at_<q8\/(↑q2.length:Int)<=at_->false=r0)/\(q4/\at_<(↑q2.length:Int)->I64 (at_+q5)/\q8<=at_+q5/\at_+q5<=(↑q2.length:Int)/\∃ (s0:Nat),(fun (q13:Nat)=>(fun (q12:Nat)=>(fun (q11:den (Sh.nm NT.snap))=>(fun (q10:List (den (Sh.nm NT.snap)))=>(fun (q9:Int)=>(at_=at_/\q8=cH st q3 s0/\q10=q10/\(↑q10.length:Int)=q9/\q8=(↑s0:Int)/\q0)/\(q13+s0<=q12/\q4)/\∀ (s:Nat),(fun (q15:Int)=>(fun (q14:Int)=>q13+s<=q12/\q4->((↑s:Int)<q9->q8<=(↑s:Int)/\(↑s:Int)<(↑q10.length:Int)/\∀ (x:Snap),q10[s]? = some x->I64 x.id->I64 x.set->x.chunks.length*(8:Nat)<=q7->x.tag.b.length<=q7->q4/\at_<(↑q2.length:Int)/\(I64 q11.id->I64 q11.set->q11.chunks.length*(8:Nat)<=q7->q11.tag.b.length<=q7->(x.set=q11.set->I64 (q15+q5)/\I64 q14/\∃ (s':Nat),(at_=at_/\q15+q5=cH st q3 s' /\ q10=q10/\q9=q9/\q14=(↑s':Int)/\q0)/\(q13+s' <= q12/\q4)/\q12 - s' < q12 - s)/\(¬x.set=q11.set->I64 q14/\∃ (s':Nat),(at_=at_/\q15=cH st q3 s' /\ q10=q10/\q9=q9/\q14=(↑s':Int)/\q0)/\(q13+s' <= q12/\q4)/\q12 - s' < q12 - s)))/\(q9<=(↑s:Int)->decide (q15<st.keep)=r0)) ((↑s:Int)+q5)) (cH st q3 s)) (↑(List.drop q1 q2).length:Int)) (List.drop q1 q2)) (q2.getD q3 q6)) q2.length) (q3+(1:Nat)))) (st.version=st.version/\st.next=st.next/\st.keep=st.keep/\st.quota=st.quota/\st.sess=st.sess/\st.opens=st.opens/\q2=q2)) (at_+q5).toNat) st.snaps) at_.toNat) (q8<=at_)) (1:Int)) (dflt (Sh.nm NT.snap))) (140737488355328:Nat)) (0:Int)):=by kernel_rfl
theorem Ee (st:State) (at_:Int):Sat Tryz.prog (aq aF) 98 [.agg (cellsOf (.nm .state) st),.c (.int (at_))] [] ⟨[],[.c (.bool (.atom ((iY st at_))))],none,false⟩:=by
 refine aR py (Dl st at_) Tryz.func98 (by decide) (by kernel_rfl) ?_
 rw [EZ]
 (repeat' (first | with_reducible refine And.intro ?_ ?_ | with_reducible refine and_imp.2 ?_ | intro))
 all_goals try (first | (first | with_reducible rfl | with_reducible assumption | omega | (refine aj ?_ ?_ <;> omega)) | exact sK | exact (lj (by assumption)) | exact (sY (by omega) (by omega)) | exact (mJ (by omega) (by omega) (by rw [List.length_drop] at *; omega)) | exact (sR (by rw [show (at_+1).toNat=at_.toNat+1 by omega] at *; assumption) (by with_reducible assumption)) | exact (by have:=‹_<((List.length (List.drop _ _):Nat):Int)›; rw [List.length_drop] at this; omega) | exact (sP (by rw [show (at_+1).toNat=at_.toNat+1 by omega] at *; assumption) (by with_reducible assumption)))
 all_goals try (refine ⟨0,?_⟩; (repeat' (first | with_reducible refine And.intro ?_ ?_ | with_reducible refine and_imp.2 ?_ | intro)))
 all_goals try (first | (first | with_reducible rfl | with_reducible assumption | omega | (refine aj ?_ ?_ <;> omega)) | exact sK | exact (lj (by assumption)) | exact (sY (by omega) (by omega)) | exact (mJ (by omega) (by omega) (by rw [List.length_drop] at *; omega)) | exact (sR (by rw [show (at_+1).toNat=at_.toNat+1 by omega] at *; assumption) (by with_reducible assumption)) | exact (by have:=‹_<((List.length (List.drop _ _):Nat):Int)›; rw [List.length_drop] at this; omega) | exact (sP (by rw [show (at_+1).toNat=at_.toNat+1 by omega] at *; assumption) (by with_reducible assumption)))
 all_goals try (refine ⟨‹Nat› + 1,?_⟩; (repeat' (first | with_reducible refine And.intro ?_ ?_ | with_reducible refine and_imp.2 ?_ | intro)))
 all_goals (first | (first | with_reducible rfl | with_reducible assumption | omega | (refine aj ?_ ?_ <;> omega)) | exact sK | exact (lj (by assumption)) | exact (sY (by omega) (by omega)) | exact (mJ (by omega) (by omega) (by rw [List.length_drop] at *; omega)) | exact (sR (by rw [show (at_+1).toNat=at_.toNat+1 by omega] at *; assumption) (by with_reducible assumption)) | exact (by have:=‹_<((List.length (List.drop _ _):Nat):Int)›; rw [List.length_drop] at this; omega) | exact (sP (by rw [show (at_+1).toNat=at_.toNat+1 by omega] at *; assumption) (by with_reducible assumption)))
def sQ:ct:=(bO 98 (bI (ah (kT (.nm .state)) (ah (kC cI) aO)) aP fun (st,at_,_) (_)=>⟨[],[.c (.bool (.atom ((iY st at_))))],none,false⟩) (bO 72 (bI (ah (kC (cL .int)) aO) aP fun (l,_) (_)=>⟨[],[.c (.bool (.atom ((cq l))))],none,false⟩) Ct))
theorem gl:aU Tryz.prog (aq aF) sQ:=(ay (ax (ab bM (ab (ao av) al)) ak fun (st,at_,_) (_) _=>Ee st at_ ) (ay (ax (ab (ao bF) al) ak fun (l,_) (_) _=>DI l ) py))
end Go.Proofs.YtdggohppeeaipaaGreat
namespace Go.Proofs.YtdggohppeeaipaaGreat
open Go.RowKit
theorem sg {α:Type} {l:List α} {k:Nat} {d:α} (h:(k:Int)<l.length):l.set k (l.getD k d)=l:=by
 have hk:k<l.length:=by omega
 rw [List.getD_eq_getElem?_getD,List.getElem?_eq_getElem hk]; exact List.set_getElem_self hk
def xS (l:List Snap) (k:Nat):Nat:=((List.range k).filter fun (i:Nat)=>decide (0<s_ ((i:Int)+1) l)).length
def distF (l:List Snap):Nat:=xS l 64
def zP (st:State):List (Nat × LI):=[(5,{ σ:=Nat,F:=fun k=>([(1,one (.ptr 0 0)),(2,one (.ptr 1 0)),(18,one (.int st.snaps.length)),(19,one (.int k))],[.box 26 ([.int ((st.version)),.int ((st.next)),.int ((st.keep)),.int ((st.quota)),.own 2,.own 3,.own 4]),.box 26 ([.int ((0)),.int ((0)),.int ((0)),.int ((0)),.em true,.em true,.em true]),.row 44 (.nm .sess) ((st.sess)),.row 77 (.nm .opn) ((st.opens)),.row 59 (.nm .snap) ((st.snaps))]),J:=fun k=>k<=st.snaps.length,μ:=fun k=>st.snaps.length - k })]
theorem EL (st:State) (v:Int) (r0:Int):cN aF sQ [] Tryz.f77 [.agg (cellsOf (.nm .state) st),.c (.int (v))] [] [.c (.int (r0))]=((fun (q12:Int)=>(fun (q11:Bool)=>(fun (q10:Bool)=>(fun (q9:Int)=>(fun (q8:Int)=>(fun (q7:Int)=>(fun (q6:Int)=>(fun (q5:Int)=>(fun (q4:Int)=>(fun (q3:Prop)=>(fun (q2:Prop)=>(fun (q1:Prop)=>(fun (q0:Prop)=>I64 st.version->I64 q12->I64 st.keep->I64 q8->st.sess.length*(32:Nat)<=(140737488355328:Nat)->st.opens.length*(16:Nat)<=(140737488355328:Nat)->st.snaps.length*(64:Nat)<=(140737488355328:Nat)->I64 v->(ba v q6 q9=false->q6=r0)/\(ba v q6 q9=true->(v<q9->q5<=q7/\q5<=q7/\(((q0/\ba q8 q4 q4=true)/\q1)/\q2->q6<=q12/\q12<=q7)/\((((q3\/ba q8 q4 q4=false)\/aw Sess.client q5 q4 st.sess=false\/q11=false)\/aw Opn.set q5 q4 st.opens=false\/q10=false)\/cK st v=false->(6:Int)=r0)/\((((q0/\ba q8 q4 q4=true)/\q1)/\q2)/\cK st v=true->q4=r0))/\(q9<=v->q5<=q7/\q5<=q7/\(((q0/\ba q8 q4 (64:Int)=true)/\q1)/\q2->q6<=q12/\q12<=q7)/\((((q3\/ba q8 q4 (64:Int)=false)\/aw Sess.client q5 q4 st.sess=false\/q11=false)\/aw Opn.set q5 q4 st.opens=false\/q10=false)\/cK st v=false->(6:Int)=r0)/\((((q0/\ba q8 q4 (64:Int)=true)/\q1)/\q2)/\cK st v=true->q4=r0)))) ((ba st.version q6 q9=true/\ba q12 q6 q7=true)/\ba st.keep q4 q5=true)) (aw Sess.client q5 q4 st.sess=true/\q11=true)) (aw Opn.set q5 q4 st.opens=true/\q10=true)) ((ba st.version q6 q9=false\/ba q12 q6 q7=false)\/ba st.keep q4 q5=false)) (0:Int)) (8:Int)) (1:Int)) (1048576:Int)) st.quota) (3:Int)) (st.opens.all aM)) (st.sess.all aN)) st.next):=by kernel_rfl
theorem ER (st:State) (v:Int):Sat Tryz.prog (aq aF) 77 [.agg (cellsOf (.nm .state) st),.c (.int (v))] [] ⟨[],[.c (.int ((mayF st v)))],none,false⟩:=by
 refine aR gl [] Tryz.func77 (by decide) (by kernel_rfl) ?_
 rw [EL]
 (repeat' (first | with_reducible refine And.intro ?_ ?_ | with_reducible refine and_imp.2 ?_ | intro))
 all_goals (first | (first | with_reducible rfl | with_reducible assumption | omega | (refine aj ?_ ?_ <;> omega)) | exact (nO (a:=1) (b:=1048576) (by with_reducible assumption)).1 | exact (nO (a:=1) (b:=1048576) (by with_reducible assumption)).2 | (simp only [mayF,bR,iU,fO]; grind))
theorem Bo (c:Command) (v:Int) (r0:Int):cN aF sQ [] Tryz.f84 [.agg (cellsOf (.nm .command) c),.c (.int (v))] [] [.c (.int (r0))]=((fun (q0:Int)=>I64 c.kind->I64 c.client->I64 c.seq->I64 c.set->I64 c.id->I64 c.n->c.chunks.length*(8:Nat)<=(140737488355328:Nat)->c.text.b.length<=(140737488355328:Nat)->I64 v->I64 q0->(ju v=false\/q0=(0:Int)->(1:Int)=r0)/\(ju v=true/\¬q0=(0:Int)->(v<q0->(10:Int)=r0)/\(q0<=v->(gz c=false->(1:Int)=r0)/\(gz c=true->(0:Int)=r0)))) (kb c.kind)):=by kernel_rfl
theorem Cg (c:Command) (v:Int):Sat Tryz.prog (aq aF) 84 [.agg (cellsOf (.nm .command) c),.c (.int (v))] [] ⟨[],[.c (.int ((bZ c v)))],none,false⟩:=by
 refine aR gl [] Tryz.func84 (by decide) (by kernel_rfl) ?_
 rw [Bo]
 rw [show ju v=ba v 1 3 from rfl]
 (repeat' (first | with_reducible refine And.intro ?_ ?_ | with_reducible refine and_imp.2 ?_ | intro))
 all_goals (first | (first | with_reducible rfl | with_reducible assumption | omega | (refine aj ?_ ?_ <;> omega)) | (simp only [bZ]; grind))
theorem BV (st:State) (r0:Int) (r1:Int) (r2:Int) (r3:Int) (r4:List Sess) (r5:List Opn) (r6:List Snap):sq aF sQ (zP st) Tryz.f32 [.agg (cellsOf (.nm .state) st)] [] [.agg ([.int (r0),.int (r1),.int (r2),.int (r3),.own 0,.own 1,.own 2])] [.row 44 (.nm .sess) (r4),.row 77 (.nm .opn) (r5),.row 59 (.nm .snap) (r6)]=((fun (q4:Int)=>(fun (q3:Nat)=>(fun (q2:den (Sh.nm NT.snap))=>(fun (q1:Prop)=>(fun (q0:List Snap)=>I64 q4->I64 st.next->I64 st.keep->I64 st.quota->st.sess.length*(32:Nat)<=q3->st.opens.length*(16:Nat)<=q3->q0.length*(64:Nat)<=q3->∃ (s0:Nat),(fun (q5:Nat)=>((↑q0.length:Int)=(↑q5:Int)/\(0:Int)=(↑s0:Int)/\q4=q4/\st.next=st.next/\st.keep=st.keep/\st.quota=st.quota/\q1/\q1/\q1/\q1/\st.sess=st.sess/\st.opens=st.opens/\q0=q0)/\s0<=q5/\∀ (s:Nat),(fun (q7:den (Sh.nm NT.snap))=>(fun (q6:Prop)=>s<=q5->((↑s:Int)<(↑q5:Int)->(0:Int)<=(↑s:Int)/\(↑s:Int)<(↑q0.length:Int)/\(0:Int)<=(↑s:Int)/\(↑s:Int)<(↑q0.length:Int)/\(I64 q7.id->I64 q7.set->q6->q7.tag.b.length<=q3->q6->I64 q7.id->I64 q7.set->q6->q7.tag.b.length<=q3->I64 ((↑s:Int)+(1:Int))/\∃ (s':Nat),((↑q5:Int)=(↑q5:Int)/\(↑s:Int)+(1:Int)=(↑s':Int)/\q4=q4/\st.next=st.next/\st.keep=st.keep/\st.quota=st.quota/\q1/\q1/\q1/\q1/\st.sess=st.sess/\st.opens=st.opens/\q0.set s q7=q0)/\s' <= q5/\q5 - s' < q5 - s))/\((↑q5:Int)<=(↑s:Int)->q4=r0/\st.next=r1/\st.keep=r2/\st.quota=r3/\st.sess=r4/\st.opens=r5/\q0=r6)) (q7.chunks.length*(8:Nat)<=q3)) (q0.getD s q2)) q0.length) st.snaps) ((0:Int)=(0:Int))) (dflt (Sh.nm NT.snap))) (140737488355328:Nat)) st.version):=by kernel_rfl
theorem Ba (st:State):Sat Tryz.prog (aq aF) 32 [.agg (cellsOf (.nm .state) st)] [] ⟨[],[.agg ([.int ((st.version)),.int ((st.next)),.int ((st.keep)),.int ((st.quota)),.own 0,.own 1,.own 2])],some ([.row 44 (.nm .sess) ((st.sess)),.row 77 (.nm .opn) ((st.opens)),.row 59 (.nm .snap) ((st.snaps))]),true⟩:=by
 refine ew gl (zP st) Tryz.func32 (by decide) (by kernel_rfl) ?_
 rw [BV]
 (repeat' (first | with_reducible refine And.intro ?_ ?_ | with_reducible refine and_imp.2 ?_ | intro))
 all_goals try (first | (first | with_reducible rfl | with_reducible assumption | omega | (refine aj ?_ ?_ <;> omega)) | exact rfl | exact (sg (by omega)))
 all_goals try (refine ⟨0,?_⟩; (repeat' (first | with_reducible refine And.intro ?_ ?_ | with_reducible refine and_imp.2 ?_ | intro)))
 all_goals try (first | (first | with_reducible rfl | with_reducible assumption | omega | (refine aj ?_ ?_ <;> omega)) | exact rfl | exact (sg (by omega)))
 all_goals try (refine ⟨‹Nat› + 1,?_⟩; (repeat' (first | with_reducible refine And.intro ?_ ?_ | with_reducible refine and_imp.2 ?_ | intro)))
 all_goals (first | (first | with_reducible rfl | with_reducible assumption | omega | (refine aj ?_ ?_ <;> omega)) | exact rfl | exact (sg (by omega)))
theorem vO (x:Snap) (n:Int) (v:Int) (r0:Bool):cN aF (CF sQ) [] Tryz.f68 [.agg (cellsOf (.nm .snap) x),.c (.int (n)),.c (.int (v))] [] [.c (.bool (.atom (r0)))]=(I64 x.id->I64 x.set->x.chunks.length*(8:Nat)<=(140737488355328:Nat)->x.tag.b.length<=(140737488355328:Nat)->I64 n->I64 v->(cq x.chunks && ba x.id (1:Int) (eK n (1:Int)) && ba x.set (1:Int) (8:Int) && (!x.held || decide ((2:Int)<=v)) && decide ((↑x.tag.b.length:Int)<=(16:Int)) && (decide (x.tag=Str.mk []) || decide ((3:Int)<=v)))=r0):=by kernel_rfl
theorem vF (x:Snap) (n:Int) (v:Int):Sat Tryz.prog (aq aF) 68 [.agg (cellsOf (.nm .snap) x),.c (.int (n)),.c (.int (v))] [] ⟨[],[.c (.bool (.atom ((dK n v x))))],none,false⟩:=by
 refine aR (uE gl) [] Tryz.func68 (by decide) (by kernel_rfl) ?_
 rw [vO]
 intros; rfl
theorem Bm (x:Snap) (y:Snap) (r0:Bool):cN aF sQ [] Tryz.f106 [.agg (cellsOf (.nm .snap) x),.agg (cellsOf (.nm .snap) y)] [] [.c (.bool (.atom (r0)))]=(I64 x.id->I64 x.set->x.chunks.length*(8:Nat)<=(140737488355328:Nat)->x.tag.b.length<=(140737488355328:Nat)->I64 y.id->I64 y.set->y.chunks.length*(8:Nat)<=(140737488355328:Nat)->y.tag.b.length<=(140737488355328:Nat)->(decide (x.chunks=y.chunks) && decide (x.id=y.id) && decide (x.set=y.set) && x.held == y.held && decide (x.tag=y.tag))=r0):=by kernel_rfl
theorem AZ (x:Snap) (y:Snap):Sat Tryz.prog (aq aF) 106 [.agg (cellsOf (.nm .snap) x),.agg (cellsOf (.nm .snap) y)] [] ⟨[],[.c (.bool (.atom ((decide (x=y)))))],none,false⟩:=by
 refine aR gl [] Tryz.func106 (by decide) (by kernel_rfl) ?_
 rw [Bm]
 intros; cases x; cases y; simp only [Snap.mk.injEq]; grind
def rv:ct:=(bO 106 (bI (ah (kT (.nm .snap)) (ah (kT (.nm .snap)) aO)) aP fun (x,y,_) (_)=>⟨[],[.c (.bool (.atom ((decide (x=y)))))],none,false⟩) (bO 68 (bI (ah (kT (.nm .snap)) (ah (kC cI) (ah (kC cI) aO))) aP fun (x,n,v,_) (_)=>⟨[],[.c (.bool (.atom ((dK n v x))))],none,false⟩) (bO 32 (bI (ah (kT (.nm .state)) aO) aP fun (st,_) (_)=>⟨[],[.agg ([.int ((st.version)),.int ((st.next)),.int ((st.keep)),.int ((st.quota)),.own 0,.own 1,.own 2])],some ([.row 44 (.nm .sess) ((st.sess)),.row 77 (.nm .opn) ((st.opens)),.row 59 (.nm .snap) ((st.snaps))]),true⟩) (bO 84 (bI (ah (kT (.nm .command)) (ah (kC cI) aO)) aP fun (c,v,_) (_)=>⟨[],[.c (.int ((bZ c v)))],none,false⟩) (bO 77 (bI (ah (kT (.nm .state)) (ah (kC cI) aO)) aP fun (st,v,_) (_)=>⟨[],[.c (.int ((mayF st v)))],none,false⟩) sQ)))))
theorem iE:aU Tryz.prog (aq aF) rv:=(ay (ax (ab bM (ab bM al)) ak fun (x,y,_) (_) _=>AZ x y ) (ay (ax (ab bM (ab (ao av) (ab (ao av) al))) ak fun (x,n,v,_) (_) _=>vF x n v ) (ay (ax (ab bM al) ak fun (st,_) (_) _=>Ba st ) (ay (ax (ab bM (ab (ao av) al)) ak fun (c,v,_) (_) _=>Cg c v ) (ay (ax (ab bM (ab (ao av) al)) ak fun (st,v,_) (_) _=>ER st v ) gl)))))
end Go.Proofs.YtdggohppeeaipaaGreat
namespace Go.Proofs.YtdggohppeeaipaaGreat
open Go.RowKit
def dp (s:State):State:={ s with sess:=s.sess.take 20,opens:=s.opens.take 20,snaps:=(s.snaps.take 20).map fun x=>{ x with chunks:=x.chunks.take 12,tag:=x.tag.cut 0 40 } }
def um (l:List Snap) (id:Int) (k:Nat):List Int:=((List.range k).filter fun (i:Nat)=>decide (0<s_ ((i:Int)+1) l) && decide (s_ ((i:Int)+1) (bb id l)=0)).map fun (i:Nat)=>(i:Int)+1
def cD (xs:List Int) (l:List Int):List Int:=l.foldl (fun xs n=>if 1<=n/\n<=64 then xs.set n.toNat (xs.getD n.toNat 0+1) else xs) xs
theorem xu {a b:List Snap} {k:Nat} (h:a.take k=b.take k) (e:decide (a.getD k (dflt (.nm .snap))=b.getD k (dflt (.nm .snap)))=true) (hk:(k:Int)<a.length) (hb:(k:Int)<b.length):a.take (k+1)=b.take (k+1):=uv h (by omega) (by omega) (of_decide_eq_true e)
theorem yQ {a b:List Snap} {k:Nat} (e:decide (a.getD k (dflt (.nm .snap))=b.getD k (dflt (.nm .snap)))=false) (_:(k:Int)<a.length) (_:(k:Int)<b.length):false=decide (a=b):=by
 symm; apply decide_eq_false; rintro rfl; simp at e
theorem Eu {l:List Snap} {id:Int} (h:nch l<=1048576):nch (bb id l)<=1048576:=by
 refine Nat.le_trans ?_ h
 unfold nch bb
 induction l with
 | nil=>exact Nat.le_refl _
 | cons x l ih=>
  have hl:(l.flatMap Snap.chunks).length<=1048576:=by unfold nch at h; rw [List.flatMap_cons,List.length_append] at h; omega
  have:=ih hl
  rw [List.filter_cons,List.flatMap_cons,List.length_append]
  split
  ·rw [List.flatMap_cons,List.length_append]; omega
  ·omega
def gF (l:List Snap) (id:Int):List Int:=um l id 64
theorem ub {st:State} {k:Nat} {x:Snap} (hx:st.snaps[k]? = some x) (h:(k:Int)<20):(dp st).snaps[k]? = some { x with chunks:=x.chunks.take 12,tag:=x.tag.cut 0 40 }:=by
 show (List.map _ (st.snaps.take 20))[k]? = _
 rw [List.getElem?_map,List.getElem?_take_of_lt (by omega),hx]; rfl
theorem Ex {st:State} {k:Nat} {x:Snap} (hx:st.snaps[k]? = some x) (h:(k:Int)<20) (_:12<(x.chunks.length:Int)) (_:40<(x.tag.b.length:Int)):(dp st).snaps.take k++[Snap.mk x.id x.set (x.chunks.take 12) x.held ⟨x.tag.b.take 40⟩]=(dp st).snaps.take (k+1):=by
 rw [aD (ub hx h)]; rfl
theorem Dx {st:State} {k:Nat} {x:Snap} (hx:st.snaps[k]? = some x) (h:(k:Int)<20) (_:12<(x.chunks.length:Int)) (h2:(x.tag.b.length:Int)<=40):(dp st).snaps.take k++[Snap.mk x.id x.set (x.chunks.take 12) x.held x.tag]=(dp st).snaps.take (k+1):=by
 rw [aD (ub hx h),show x.tag.cut 0 40=x.tag from (rz h2).symm]
theorem DX {st:State} {k:Nat} {x:Snap} (hx:st.snaps[k]? = some x) (h:(k:Int)<20) (h1:(x.chunks.length:Int)<=12) (_:40<(x.tag.b.length:Int)):(dp st).snaps.take k++[Snap.mk x.id x.set x.chunks x.held ⟨x.tag.b.take 40⟩]=(dp st).snaps.take (k+1):=by
 rw [aD (ub hx h),show x.chunks.take 12=x.chunks from List.take_of_length_le (by omega)]; rfl
theorem EY {st:State} {k:Nat} {x:Snap} (hx:st.snaps[k]? = some x) (h:(k:Int)<20) (h1:(x.chunks.length:Int)<=12) (h2:(x.tag.b.length:Int)<=40):(dp st).snaps.take k++[x]=(dp st).snaps.take (k+1):=by
 rw [aD (ub hx h),show x.chunks.take 12=x.chunks from List.take_of_length_le (by omega),show x.tag.cut 0 40=x.tag from (rz h2).symm]
theorem FJ {st:State}:(dp st).snaps.length=min 20 st.snaps.length:=by
 show (List.map _ (st.snaps.take 20)).length=_
 rw [List.length_map,List.length_take]
theorem sB {st:State} {k:Nat} {y:Snap} (h:(k:Int)<20):(((dp st).snaps.take k).length+[y].length)*64<=140737488355328:=by
 rw [List.length_take]; simp only [List.length_cons,List.length_nil]; omega
theorem zk {st:State} {k:Nat} (h:(k:Int)<20) (h2:(k:Int)<st.snaps.length):k+1<=(dp st).snaps.length:=by rw [FJ]; omega
theorem wX {st:State} {k:Nat} (h:(st.snaps.length:Int)<=k\/20<=(k:Int)):(dp st).snaps.length<=k:=by rw [FJ]; omega
def nr (xs l:List Int):Prop:=∀ i,0<=xs.getD i 0/\xs.getD i 0+l.length<=4611686018427387904
theorem pQ {xs:List Int} {i j:Nat} {v:Int}:(xs.set j v).getD i 0=if j=i/\j<xs.length then v else xs.getD i 0:=by
 rw [List.getD_eq_getElem?_getD,List.getElem?_set,List.getD_eq_getElem?_getD]
 by_cases h:j=i
 ·subst h
  by_cases h2:j<xs.length
  ·simp [h2]
  ·simp [h2]
 ·simp [h]
theorem tp:∀ (l xs:List Int) (i:Nat),xs.getD i 0<=(cD xs l).getD i 0/\(cD xs l).getD i 0<=xs.getD i 0+l.length
 | [],xs,i=>by simp [cD]
 | n :: l,xs,i=>by
  have h:=tp l (if 1<=n/\n<=64 then xs.set n.toNat (xs.getD n.toNat 0+1) else xs) i
  have e:cD xs (n :: l)=cD (if 1<=n/\n<=64 then xs.set n.toNat (xs.getD n.toNat 0+1) else xs) l:=rfl
  rw [e]
  have h2:xs.getD i 0<=(if 1<=n/\n<=64 then xs.set n.toNat (xs.getD n.toNat 0+1) else xs).getD i 0/\(if 1<=n/\n<=64 then xs.set n.toNat (xs.getD n.toNat 0+1) else xs).getD i 0<=xs.getD i 0+1:=by
   split
   ·rw [pQ]; split
    ·rename_i h3; rw [h3.1]; omega
    ·omega
   ·omega
  rw [List.length_cons]; omega
theorem rq {xs l:List Int} {k:Nat} {n:Int} (hx:l[k]? = some n):cD xs (l.take (k+1))=if 1<=n/\n<=64 then (cD xs (l.take k)).set n.toNat ((cD xs (l.take k)).getD n.toNat 0+1) else cD xs (l.take k):=by
 rw [aD hx,cD,List.foldl_append]; rfl
theorem yG {xs l:List Int} {k:Nat} {n:Int} (hx:l[k]? = some n) (h:1<=n/\n<=64):(cD xs (l.take k)).set n.toNat ((cD xs (l.take k)).getD n.toNat (dflt .int)+1)=cD xs (l.take (k+1)):=by rw [rq hx,if_pos h]; rfl
theorem xc {xs l:List Int} {k:Nat} {n:Int} (hx:l[k]? = some n) (h:¬ (1<=n/\n<=64)):cD xs (l.take k)=cD xs (l.take (k+1)):=by rw [rq hx,if_neg h]
theorem yM {xs l:List Int} {k:Nat} {n:Int} (h:nr xs l):I64 ((cD xs (l.take k)).getD n.toNat (dflt .int)+1):=by
 have h1:=tp (l.take k) xs n.toNat
 have h2:=h n.toNat
 rw [List.length_take] at h1
 show I64 ((cD xs (l.take k)).getD n.toNat 0+1)
 constructor <;> omega
def na (a:List Snap) (b:List Snap):List (Nat × LI):=[(4,{ σ:=Nat,F:=fun k=>([(0,one (.fz (.nm .snap) (a))),(1,one (.fz (.nm .snap) (b))),(5,one (.int k))],[]),J:=fun k=>k<=a.length/\a.length=b.length/\a.take k=b.take k,μ:=fun k=>a.length - k })]
def Gk (l:List Int) (xs:List Int):List (Nat × LI):=[(1,{ σ:=Nat,F:=fun k=>([(0,one (.ptr 0 0)),(6,one (.fz .int (l))),(7,one (.int (l).length)),(8,one (.int k))],[.arr 108 .int 65 ((cD xs (l.take k)))]),J:=fun k=>k<=l.length,μ:=fun k=>(l).length - k })]
theorem DA (st:State) (c:Command) (r0:Int):cN aF rv [] Tryz.f33 [.agg (cellsOf (.nm .state) st),.agg (cellsOf (.nm .command) c)] [] [.c (.int (r0))]=((fun (q0:Int)=>I64 q0->I64 st.next->I64 st.keep->I64 st.quota->st.sess.length*(32:Nat)<=(140737488355328:Nat)->st.opens.length*(16:Nat)<=(140737488355328:Nat)->st.snaps.length*(64:Nat)<=(140737488355328:Nat)->I64 c.kind->I64 c.client->I64 c.seq->I64 c.set->I64 c.id->I64 c.n->c.chunks.length*(8:Nat)<=(140737488355328:Nat)->c.text.b.length<=(140737488355328:Nat)->I64 (mayF st q0)->(¬mayF st q0=(0:Int)->(1:Int)=r0)/\(mayF st q0=(0:Int)->I64 (bZ c q0)->bZ c q0=r0)) st.version):=by kernel_rfl
theorem Ev (st:State) (c:Command):Sat Tryz.prog (aq aF) 33 [.agg (cellsOf (.nm .state) st),.agg (cellsOf (.nm .command) c)] [] ⟨[],[.c (.int ((if mayF st st.version=0 then bZ c st.version else 1)))],none,false⟩:=by
 refine aR iE [] Tryz.func33 (by decide) (by kernel_rfl) ?_
 rw [DA]
 grind
theorem r_ (a:List Snap) (b:List Snap) (r0:Bool):cN aF rv (na a b) Tryz.f66 [.c (.fz (.nm .snap) (a)),.c (.fz (.nm .snap) (b))] [] [.c (.bool (.atom (r0)))]=((fun (q3:Nat)=>(fun (q2:Nat)=>(fun (q1:Int)=>(fun (q0:den (Sh.nm NT.snap))=>a.length*(64:Nat)<=q3->b.length*(64:Nat)<=q3->(¬q1=(↑b.length:Int)->false=r0)/\(q1=(↑b.length:Int)->∃ (s0:Nat),(a=a/\b=b/\(0:Int)=(↑s0:Int))/\(s0<=q2/\q2=b.length/\List.take s0 a=List.take s0 b)/\∀ (s:Nat),(fun (q5:den (Sh.nm NT.snap))=>(fun (q4:den (Sh.nm NT.snap))=>s<=q2/\q2=b.length/\List.take s a=List.take s b->((↑s:Int)<q1->(0:Int)<=(↑s:Int)/\(↑s:Int)<q1/\(0:Int)<=(↑s:Int)/\(↑s:Int)<(↑b.length:Int)/\(I64 q4.id->I64 q4.set->q4.chunks.length*(8:Nat)<=q3->q4.tag.b.length<=q3->I64 q5.id->I64 q5.set->q5.chunks.length*(8:Nat)<=q3->q5.tag.b.length<=q3->(decide (q4=q5)=false->false=r0)/\(decide (q4=q5)=true->I64 ((↑s:Int)+(1:Int))/\∃ (s':Nat),(a=a/\b=b/\(↑s:Int)+(1:Int)=(↑s':Int))/\(s' <= q2/\q2=b.length/\List.take s' a=List.take s' b)/\q2 - s' < q2 - s)))/\(q1<=(↑s:Int)->true=r0)) (a.getD s q0)) (b.getD s q0))) (dflt (Sh.nm NT.snap))) (↑a.length:Int)) a.length) (140737488355328:Nat)):=by kernel_rfl
theorem tD (a:List Snap) (b:List Snap):Sat Tryz.prog (aq aF) 66 [.c (.fz (.nm .snap) (a)),.c (.fz (.nm .snap) (b))] [] ⟨[],[.c (.bool (.atom ((decide (a=b)))))],none,false⟩:=by
 refine aR iE (na a b) Tryz.func66 (by decide) (by kernel_rfl) ?_
 rw [r_]
 (repeat' (first | with_reducible refine And.intro ?_ ?_ | with_reducible refine and_imp.2 ?_ | intro))
 all_goals try (first | (first | with_reducible rfl | with_reducible assumption | omega | (refine aj ?_ ?_ <;> omega)) | exact rfl | exact (sE (by with_reducible assumption)) | exact (xu (by with_reducible assumption) (by with_reducible assumption) (by with_reducible assumption) (by omega)) | exact (yQ (by with_reducible assumption) (by omega) (by omega)) | exact (lA (by omega) (by with_reducible assumption) (by omega)))
 all_goals try (refine ⟨0,?_⟩; (repeat' (first | with_reducible refine And.intro ?_ ?_ | with_reducible refine and_imp.2 ?_ | intro)))
 all_goals try (first | (first | with_reducible rfl | with_reducible assumption | omega | (refine aj ?_ ?_ <;> omega)) | exact rfl | exact (sE (by with_reducible assumption)) | exact (xu (by with_reducible assumption) (by with_reducible assumption) (by with_reducible assumption) (by omega)) | exact (yQ (by with_reducible assumption) (by omega) (by omega)) | exact (lA (by omega) (by with_reducible assumption) (by omega)))
 all_goals try (refine ⟨‹Nat› + 1,?_⟩; (repeat' (first | with_reducible refine And.intro ?_ ?_ | with_reducible refine and_imp.2 ?_ | intro)))
 all_goals (first | (first | with_reducible rfl | with_reducible assumption | omega | (refine aj ?_ ?_ <;> omega)) | exact rfl | exact (sE (by with_reducible assumption)) | exact (xu (by with_reducible assumption) (by with_reducible assumption) (by with_reducible assumption) (by omega)) | exact (yQ (by with_reducible assumption) (by omega) (by omega)) | exact (lA (by omega) (by with_reducible assumption) (by omega)))
theorem Hf (l:List Int) (xs:List Int) (r0:List Int):nb aF rv (Gk l xs) Tryz.f126 [.c (.ptr 0 0),.c (.fz .int (l))] [.arr 108 .int 65 (xs)] [] [.arr 108 .int 65 (r0)]=((fun (q1:Int)=>(fun (q0:Nat)=>l.length*(8:Nat)<=(140737488355328:Nat)->∃ (s0:Nat),(fun (q2:Int)=>(l=l/\(↑l.length:Int)=q2/\(0:Int)=(↑s0:Int)/\xs=cD xs (List.take s0 l))/\s0<=q0/\∀ (s:Nat),(fun (q4:Int)=>(fun (q3:List Int)=>s<=q0->((↑s:Int)<q2->(0:Int)<=(↑s:Int)/\(↑s:Int)<(↑l.length:Int)/\∀ (x:Int),(fun (q5:den Sh.int)=>l[s]? = some x->I64 x->(q1<=x/\x<=(64:Int)->(0:Int)<=x/\x<(↑(65:Nat):Int)/\x.toNat<(65:Nat)/\I64 (q5+q1)/\(0:Int)<=x/\x<(↑(65:Nat):Int)/\(I64 q5->x.toNat<(65:Nat)/\I64 q4/\∃ (s':Nat),(l=l/\q2=q2/\q4=(↑s':Int)/\q3.set x.toNat (q5+q1)=cD xs (List.take s' l))/\s' <= q0/\q0 - s' < q0 - s))/\(x<q1\/(64:Int)<x->I64 q4/\∃ (s':Nat),(l=l/\q2=q2/\q4=(↑s':Int)/\q3=cD xs (List.take s' l))/\s' <= q0/\q0 - s' < q0 - s)) (q3.getD x.toNat (dflt Sh.int)))/\(q2<=(↑s:Int)->q3=r0)) (cD xs (List.take s l))) ((↑s:Int)+q1)) (↑q0:Int)) l.length) (1:Int)):=by kernel_rfl
theorem GN (l:List Int) (xs:List Int) (h0:nr xs l):Sat Tryz.prog (aq aF) 126 [.c (.ptr 0 0),.c (.fz .int (l))] [.arr 108 .int 65 (xs)] ⟨[nr xs l],[],some ([.arr 108 .int 65 ((cD xs l))]),false⟩:=by
 refine dm iE (Gk l xs) Tryz.func126 (by decide) (by kernel_rfl) ?_
 rw [Hf]
 (repeat' (first | with_reducible refine And.intro ?_ ?_ | with_reducible refine and_imp.2 ?_ | intro))
 all_goals try (first | (first | with_reducible rfl | with_reducible assumption | omega | (refine aj ?_ ?_ <;> omega)) | exact rfl | exact (yG (by with_reducible assumption) (by constructor <;> omega)) | exact (xc (by with_reducible assumption) (by omega)) | exact (by rw [List.take_of_length_le (by omega)]) | exact (yM (by with_reducible assumption)))
 all_goals try (refine ⟨0,?_⟩; (repeat' (first | with_reducible refine And.intro ?_ ?_ | with_reducible refine and_imp.2 ?_ | intro)))
 all_goals try (first | (first | with_reducible rfl | with_reducible assumption | omega | (refine aj ?_ ?_ <;> omega)) | exact rfl | exact (yG (by with_reducible assumption) (by constructor <;> omega)) | exact (xc (by with_reducible assumption) (by omega)) | exact (by rw [List.take_of_length_le (by omega)]) | exact (yM (by with_reducible assumption)))
 all_goals try (refine ⟨‹Nat› + 1,?_⟩; (repeat' (first | with_reducible refine And.intro ?_ ?_ | with_reducible refine and_imp.2 ?_ | intro)))
 all_goals (first | (first | with_reducible rfl | with_reducible assumption | omega | (refine aj ?_ ?_ <;> omega)) | exact rfl | exact (yG (by with_reducible assumption) (by constructor <;> omega)) | exact (xc (by with_reducible assumption) (by omega)) | exact (by rw [List.take_of_length_le (by omega)]) | exact (yM (by with_reducible assumption)))
def yH:ct:=(bO 126 (bI (ah (kC (bN 0 0)) (ah (kC (cL .int)) aO)) (az (pz 108 .int 65) aP) fun (_,l,_) (xs,_)=>⟨[nr xs l],[],some ([.arr 108 .int 65 ((cD xs l))]),false⟩) (bO 66 (bI (ah (kC (cL (.nm .snap))) (ah (kC (cL (.nm .snap))) aO)) aP fun (a,b,_) (_)=>⟨[],[.c (.bool (.atom ((decide (a=b)))))],none,false⟩) (bO 33 (bI (ah (kT (.nm .state)) (ah (kT (.nm .command)) aO)) aP fun (st,c,_) (_)=>⟨[],[.c (.int ((if mayF st st.version=0 then bZ c st.version else 1)))],none,false⟩) rv)))
theorem qY:aU Tryz.prog (aq aF) yH:=(ay (ax (ab (ao aJ) (ab (ao bF) al)) (ag fp ak) fun (_,l,_) (xs,_) hp=>GN l xs (eI hp)) (ay (ax (ab (ao bF) (ab (ao bF) al)) ak fun (a,b,_) (_) _=>tD a b ) (ay (ax (ab bM (ab bM al)) ak fun (st,c,_) (_) _=>Ev st c ) iE)))
end Go.Proofs.YtdggohppeeaipaaGreat
