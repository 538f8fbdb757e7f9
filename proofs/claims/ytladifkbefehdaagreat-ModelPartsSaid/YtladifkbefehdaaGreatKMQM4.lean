/- What leads to the law, part 4. Conditions: each lemma's own. -/
import Derived.Test.YtladifkbefehdaaGreatKMQM3
set_option linter.unusedVariables false
set_option linter.unusedSimpArgs false
namespace Go.Proofs.YtladifkbefehdaaGreat
open Go.RowKit
theorem na (z:Array Value) (n:Nat):(Builtin.zeroCells z n).toList.length=n*z.size:=by rw [Array.length_toList,size_zeroCells]
theorem aZ {w:World} {g:Nat} {o:Obj} (h:w.heap[g]? = some o):g<w.heap.size:=(Array.getElem?_eq_some_iff.1 h).1
theorem cr:(Tryz.prog.info? 82).map (·.size)=some 4:=by kernel_rfl
theorem Cf:(Tryz.prog.info? 82).map (fun i=>(i.zero,i.size,i.bytes))=some (some (.agg #[.int .i64 0,.int .i64 0,.int .i64 0,.int .i64 0]),4,32):=by kernel_rfl
set_option maxRecDepth 100000 in
set_option maxHeartbeats 1000000 in
theorem ra {w:World} {n c vc:Nat} {A:Option Addr} {B:Option Addr} {φ:Value->World->Prop} (happ:∀ (F:Fr) (x y:Operand) (ty:TypeId),ev F x=some (.slice A n c)->ev F y=some (.slice B 1 vc)->∃ v2 w2,aO Tryz.prog 95 F w (.call { callee:=.builtin .append,args:=#[x,y],argTypes:=#[39,39] }) ty v2 w2/\φ v2 w2) :
  gI Tryz.prog 64 [.slice A n c,.int .i64 (n:Int),.slice B 1 vc].toArray w φ:=by
 refine gI.enter Tryz.func64 rfl rfl rfl rfl ?_
 refine WC.seq ?_
 refine WC.region ?_
 refine WO.v (R.assign rfl) rfl ?_
 refine WO.nil ?_
 refine WX.next ?_
 refine WC.seq ?_
 refine WC.region ?_
 refine WO.v (R.move rfl) rfl ?_
 refine WO.v (R.move rfl) rfl ?_
 refine WO.v (R.ck rfl rfl Tryz.underlying39 cr rfl (by omega)) rfl ?_
 refine WO.nil ?_
 refine WX.next ?_
 refine WC.seq ?_
 refine WC.region ?_
 refine WO.v (R.move rfl) rfl ?_
 refine WO.v (R.len rfl Tryz.underlying39) rfl ?_
 refine WO.v (R.assign rfl) rfl ?_
 refine WO.nil ?_
 refine WX.next ?_
 refine WC.seq ?_
 refine WC.seq ?_
 refine WC.region ?_
 refine WO.v (R.move rfl) rfl ?_
 refine WO.v (R.eql rfl rfl) rfl ?_
 refine WO.nil ?_
 refine WX.next ?_
 refine WC.cond rfl (fun q=>absurd (of_decide_eq_true q) (by omega)) (fun _=>?_)
 refine WC.skip ?_
 refine WX.next ?_
 refine WC.seq ?_
 refine WC.region ?_
 refine WO.v (R.move rfl) rfl ?_
 refine WO.v (R.len rfl Tryz.underlying39) rfl ?_
 refine WO.v (R.assign rfl) rfl ?_
 refine WO.nil ?_
 refine WX.next ?_
 refine WC.seq ?_
 refine WC.seq ?_
 refine WC.region ?_
 refine WO.v (R.move rfl) rfl ?_
 refine WO.v (R.move rfl) rfl ?_
 refine WO.v (R.eql rfl rfl) rfl ?_
 refine WO.nil ?_
 refine WX.next ?_
 refine WC.cond rfl (fun _=>?_) (fun q=>absurd rfl (of_decide_eq_false q))
 refine WC.seq ?_
 refine WC.region ?_
 refine WO.v (R.move rfl) rfl ?_
 refine WO.v (R.move rfl) rfl ?_
 refine WO.ve (happ _ _ _ _ rfl rfl) rfl fun v2 w2 hv2=>?_
 refine WO.v (R.assign rfl) rfl ?_
 refine WO.nil ?_
 refine WX.next ?_
 refine WC.ret ?_
 refine WX.iG ?_
 refine WX.tY rfl rfl ?_
 exact hv2
set_option maxRecDepth 100000 in
set_option maxHeartbeats 1000000 in
theorem py {w W1:World} {g b n i c vc G:Nat} {ad:Addr} {cur vs ds:List Value} (hi:i<n) (hnc:n<=c) (hc:c<n+1) (hcm:c<=maxLen) (hG:n+1<=G) (hGm:G<=maxLen)
  (happ:∀ (F:Fr) (x y:Operand) (ty:TypeId),ev F x=some (.slice (some ⟨g,0*4,none⟩) i c)->ev F y=some (.int .i64 ((n+1 - i:Nat):Int))->aO Tryz.prog 95 F w (.call { callee:=.builtin .append,args:=#[x,y],argTypes:=#[39,3] }) ty (.slice (some ⟨b,0,none⟩) (n+1) G) W1)
  (hrow:W1.heap[b]? = some (.cells cur.toArray 82 (0,0))) (hcur:(n+1)*4<=cur.length) (hv:CellsAt W1 ad vs) (hvl:vs.length=4) (hd:CellsAt W1 ⟨g,i*4,none⟩ ds) (hgb:g≠b) (hgl:g<W1.heap.size) (hdl:ds.length=(n - i)*4)
  (h1v:∀ u ∈ vs,u.oneCell' = true) (h1d:∀ u ∈ ds,u.oneCell' = true) :
  gI Tryz.prog 64 [.slice (some ⟨g,0,none⟩) n c,.int .i64 (i:Int),.slice (some ad) 1 vc].toArray w fun v w'=>v = .slice (some ⟨b,0,none⟩) (n+1) G/\∃ w1,Kp [] (W1.setRow b (cur.take (i*4)++vs++cur.drop (i*4+vs.length)).toArray) w1/\w' = w1.setRow b ((cur.take (i*4)++vs++cur.drop (i*4+vs.length)).take ((i+1)*4)++ds++(cur.take (i*4)++vs++cur.drop (i*4+vs.length)).drop ((i+1)*4+ds.length)).toArray:=by
 have hGm:G<=9223372036854775807:=hGm
 have hcm:c<=9223372036854775807:=hcm
 have hn1:vs.length=Nat.min 1 (n+1 - i)*4:=by rw [show Nat.min 1 (n+1 - i)=1 from Nat.min_eq_left (by omega),Nat.one_mul]; exact hvl
 have hn2:ds.length=Nat.min (n - i) (n+1 - (i+1))*4:=by rw [show Nat.min (n - i) (n+1 - (i+1))=n - i from Nat.min_eq_left (by omega)]; exact hdl
 refine gI.enter Tryz.func64 rfl rfl rfl rfl ?_
 refine WC.seq ?_
 refine WC.region ?_
 refine WO.v (R.assign rfl) rfl ?_
 refine WO.nil ?_
 refine WX.next ?_
 refine WC.seq ?_
 refine WC.region ?_
 refine WO.v (R.move rfl) rfl ?_
 refine WO.v (R.move rfl) rfl ?_
 refine WO.v (R.ck rfl rfl Tryz.underlying39 cr rfl (by omega)) rfl ?_
 refine WO.nil ?_
 refine WX.next ?_
 refine WC.seq ?_
 refine WC.region ?_
 refine WO.v (R.move rfl) rfl ?_
 refine WO.v (R.len rfl Tryz.underlying39) rfl ?_
 refine WO.v (R.assign rfl) rfl ?_
 refine WO.nil ?_
 refine WX.next ?_
 refine WC.seq ?_
 refine WC.seq ?_
 refine WC.region ?_
 refine WO.v (R.move rfl) rfl ?_
 refine WO.v (R.eql rfl rfl) rfl ?_
 refine WO.nil ?_
 refine WX.next ?_
 refine WC.cond rfl (fun q=>absurd (of_decide_eq_true q) (by omega)) (fun _=>?_)
 refine WC.skip ?_
 refine WX.next ?_
 refine WC.seq ?_
 refine WC.region ?_
 refine WO.v (R.move rfl) rfl ?_
 refine WO.v (R.len rfl Tryz.underlying39) rfl ?_
 refine WO.v (R.assign rfl) rfl ?_
 refine WO.nil ?_
 refine WX.next ?_
 refine WC.seq ?_
 refine WC.seq ?_
 refine WC.region ?_
 refine WO.v (R.move rfl) rfl ?_
 refine WO.v (R.move rfl) rfl ?_
 refine WO.v (R.eql rfl rfl) rfl ?_
 refine WO.nil ?_
 refine WX.next ?_
 refine WC.cond rfl (fun q=>absurd (of_decide_eq_true q) (by omega)) (fun _=>?_)
 refine WC.skip ?_
 refine WX.next ?_
 refine WC.seq ?_
 refine WC.seq ?_
 refine WC.region ?_
 refine WO.v (R.move rfl) rfl ?_
 refine WO.v (R.move rfl) rfl ?_
 refine WO.v (R.jY rfl rfl (by omega)) rfl ?_
 refine WO.v (R.move rfl) rfl ?_
 refine WO.v (R.Ey rfl Tryz.underlying39) rfl ?_
 refine WO.v (R.gtr rfl rfl) rfl ?_
 refine WO.nil ?_
 refine WX.next ?_
 refine WC.cond rfl (fun _=>?_) (fun q=>absurd (by omega) (of_decide_eq_false q))
 refine WC.seq ?_
 refine WC.region ?_
 refine WO.v (R.move rfl) rfl ?_
 refine WO.v (R.move rfl) rfl ?_
 refine WO.v (R.kB rfl rfl Tryz.underlying39 cr (dN (i:=0) (by omega)) (by omega)) rfl ?_
 refine WO.v (R.move rfl) rfl ?_
 refine WO.v (R.move rfl) rfl ?_
 refine WO.v (R.jY rfl rfl (by omega)) rfl ?_
 refine WO.v (R.move rfl) rfl ?_
 refine WO.v (R.Nk rfl rfl (by omega) (by omega)) rfl ?_
 refine WO.v (happ _ _ _ _ rfl rfl) rfl ?_
 refine WO.v (R.assign rfl) rfl ?_
 refine WO.nil ?_
 refine WX.next ?_
 refine WC.seq ?_
 refine WC.region ?_
 refine WO.v (R.move rfl) rfl ?_
 refine WO.v (R.move rfl) rfl ?_
 refine WO.v (R.ck rfl rfl Tryz.underlying39 cr (dN (by omega)) (by omega)) rfl ?_
 refine WO.v (R.move rfl) rfl ?_
 refine WO.v (R.lq rfl rfl Tryz.underlying39 cr hrow hn1 hv (by omega) h1v) rfl ?_
 refine WO.nil ?_
 refine WX.next ?_
 refine WC.seq ?_
 refine WC.ov gl [.ex [] (.slice (some ⟨b,0,none⟩) (n+1) G),.ex [] (.int .i64 ((i:Nat):Int)),.ex [] (.int .i64 ((1:Nat):Int)),.ex [1,2] (.int .i64 ((i+1:Nat):Int)),.ex [0,3] (.slice (some ⟨b,(i+1)*4,none⟩) (n+1 - (i+1)) (G - (i+1))),.ex [] (.slice (some ⟨g,0,none⟩) n c),.ex [] (.int .i64 ((i:Nat):Int)),.ex [5,6] (.slice (some ⟨g,i*4,none⟩) (n - i) (c - i))] 8 (by kernel_rfl) ⟨fun _ _ _ h _=>h,fun _ _ _ h _=>h,fun _ _ _ h _=>h,fun _ _ _ h _=>h,fun _ _ _ h _=>h,fun _ _ _ h _=>h,fun _ _ _ h _=>h,fun _ _ _ h _=>h,trivial⟩ ⟨?_,?_,?_,?_,?_,?_,?_,?_,trivial⟩ ?_
 ·rintro vs wd kd ⟨-⟩
  refine WO.br (fr':=[(9,.slice (some ⟨b,0,none⟩) (n+1) G)]) ⟨⟨_,rfl,rfl⟩,trivial⟩ ?_
  refine WO.v (R.move rfl) rfl ?_
  refine WO.nil ?_
  exact WX.aL rfl rfl (Kp.refl _)
 ·rintro vs wd kd ⟨-⟩
  refine WO.br (fr':=[(1,.int .i64 ((i:Nat):Int))]) ⟨⟨_,rfl,rfl⟩,trivial⟩ ?_
  refine WO.v (R.move rfl) rfl ?_
  refine WO.nil ?_
  exact WX.aL rfl rfl (Kp.refl _)
 ·rintro vs wd kd ⟨-⟩
  refine WO.br (fr':=[(7,.int .i64 ((1:Nat):Int))]) ⟨⟨_,rfl,rfl⟩,trivial⟩ ?_
  refine WO.v (R.move rfl) rfl ?_
  refine WO.nil ?_
  exact WX.aL rfl rfl (Kp.refl _)
 ·rintro vs wd kd ⟨e1,e2,-⟩
  refine WO.br (fr':=[(47,.int .i64 ((i:Nat):Int)),(48,.int .i64 ((1:Nat):Int))]) ⟨⟨_,rfl,e1⟩,⟨_,rfl,e2⟩,trivial⟩ ?_
  refine WO.v (R.jY rfl rfl (by omega)) rfl ?_
  refine WO.nil ?_
  exact WX.aL rfl rfl (Kp.refl _)
 ·rintro vs wd kd ⟨e0,e3,-⟩
  refine WO.br (fr':=[(46,.slice (some ⟨b,0,none⟩) (n+1) G),(49,.int .i64 ((i+1:Nat):Int))]) ⟨⟨_,rfl,e0⟩,⟨_,rfl,e3⟩,trivial⟩ ?_
  refine WO.v (R.ck rfl rfl Tryz.underlying39 cr (dN (by omega)) (by omega)) rfl ?_
  refine WO.nil ?_
  exact WX.aL rfl rfl (Kp.refl _)
 ·rintro vs wd kd ⟨-⟩
  refine WO.br (fr':=[(0,.slice (some ⟨g,0,none⟩) n c)]) ⟨⟨_,rfl,rfl⟩,trivial⟩ ?_
  refine WO.v (R.move rfl) rfl ?_
  refine WO.nil ?_
  exact WX.aL rfl rfl (Kp.refl _)
 ·rintro vs wd kd ⟨-⟩
  refine WO.br (fr':=[(1,.int .i64 ((i:Nat):Int))]) ⟨⟨_,rfl,rfl⟩,trivial⟩ ?_
  refine WO.v (R.move rfl) rfl ?_
  refine WO.nil ?_
  exact WX.aL rfl rfl (Kp.refl _)
 ·rintro vs wd kd ⟨e5,e6,-⟩
  refine WO.br (fr':=[(51,.slice (some ⟨g,0,none⟩) n c),(52,.int .i64 ((i:Nat):Int))]) ⟨⟨_,rfl,e5⟩,⟨_,rfl,e6⟩,trivial⟩ ?_
  refine WO.v (R.ck rfl rfl Tryz.underlying39 cr (dN (by omega)) (by omega)) rfl ?_
  refine WO.nil ?_
  exact WX.aL rfl rfl (Kp.refl _)
 rintro vsx w1 k1 ⟨-,-,-,-,e4,-,-,e7,-⟩
 replace k1:Kp [] (W1.setRow b (cur.take (i*4)++vs++cur.drop (i*4+vs.length)).toArray) w1:=k1
 refine WO.br (fr':=[(50,.slice (some ⟨b,(i+1)*4,none⟩) (n+1 - (i+1)) (G - (i+1))),(53,.slice (some ⟨g,i*4,none⟩) (n - i) (c - i)),(9,.slice (some ⟨b,0,none⟩) (n+1) G)]) ⟨⟨_,rfl,e4⟩,⟨_,rfl,e7⟩,⟨_,rfl,rfl⟩,trivial⟩ ?_
 have hb2:w1.heap[b]? = some (.cells (List.toArray (cur.take (i*4)++vs++cur.drop (i*4+vs.length))) 82 (0,0)):=by rw [k1.block b (by simpa using aZ hrow) (by simp)]; exact setRow_heap W1 b _ _ 82 _ hrow
 have hd2:CellsAt w1 ⟨g,i*4,none⟩ ds:=(hd.kp (Kp.setRow W1 b _) hgl (by simpa using hgb.symm)).kp k1 (by simpa using hgl) (by simp)
 refine WO.v (R.lq rfl rfl Tryz.underlying39 cr hb2 hn2 hd2 (by simp only [List.length_append,List.length_take,List.length_drop]; omega) h1d) rfl ?_
 refine WO.nil ?_
 refine WX.next ?_
 refine WC.seq ?_
 refine WC.region ?_
 refine WO.v (R.move rfl) rfl ?_
 refine WO.v (R.assign rfl) rfl ?_
 refine WO.nil ?_
 refine WX.next ?_
 refine WC.ret ?_
 refine WX.iG ?_
 refine WX.tY rfl rfl ?_
 exact ⟨rfl,w1,k1,rfl⟩
set_option maxRecDepth 100000 in
set_option maxHeartbeats 1000000 in
theorem oa {w:World} {g n i c vc:Nat} {ad:Addr} {cur vs ds:List Value} {curA:Array Value} {tA:TypeId} {fA:Nat × Nat} (hi:i<n) (hc:n+1<=c) (hcm:c<=maxLen)
  (hrow:w.heap[g]? = some (.cells cur.toArray 82 (0,0))) (hcur:(n+1)*4<=cur.length) (hv:CellsAt w ad vs) (hvb:w.heap[ad.block]? = some (.cells curA tA fA)) (hvb0:curA.size≠0) (hne:ad.block≠g) (hvl:vs.length=4) (hd:CellsAt w ⟨g,i*4,none⟩ ds) (hdl:ds.length=(n - i)*4)
  (h1v:∀ u ∈ vs,u.oneCell' = true) (h1d:∀ u ∈ ds,u.oneCell' = true) :
  gI Tryz.prog 64 [.slice (some ⟨g,0,none⟩) n c,.int .i64 (i:Int),.slice (some ad) 1 vc].toArray w fun v w'=>v = .slice (some ⟨g,0,none⟩) (n+1) c/\∃ w1,Kp [] w w1/\w' = (w1.setRow g (cur.take ((i+1)*4)++ds++cur.drop ((i+1)*4+ds.length)).toArray).setRow g ((cur.take ((i+1)*4)++ds++cur.drop ((i+1)*4+ds.length)).take (i*4)++vs++(cur.take ((i+1)*4)++ds++cur.drop ((i+1)*4+ds.length)).drop (i*4+vs.length)).toArray:=by
 have hcm:c<=9223372036854775807:=hcm
 have hn1:vs.length=Nat.min 1 (n+1 - i)*4:=by rw [show Nat.min 1 (n+1 - i)=1 from Nat.min_eq_left (by omega),Nat.one_mul]; exact hvl
 have hn2:ds.length=Nat.min (n+1 - i) (n+1 - (i+1))*4:=by rw [show Nat.min (n+1 - i) (n+1 - (i+1))=n+1 - (i+1) from Nat.min_eq_right (by omega),hdl]; congr 1; omega
 refine gI.enter Tryz.func64 rfl rfl rfl rfl ?_
 refine WC.seq ?_
 refine WC.region ?_
 refine WO.v (R.assign rfl) rfl ?_
 refine WO.nil ?_
 refine WX.next ?_
 refine WC.seq ?_
 refine WC.region ?_
 refine WO.v (R.move rfl) rfl ?_
 refine WO.v (R.move rfl) rfl ?_
 refine WO.v (R.ck rfl rfl Tryz.underlying39 cr rfl (by omega)) rfl ?_
 refine WO.nil ?_
 refine WX.next ?_
 refine WC.seq ?_
 refine WC.region ?_
 refine WO.v (R.move rfl) rfl ?_
 refine WO.v (R.len rfl Tryz.underlying39) rfl ?_
 refine WO.v (R.assign rfl) rfl ?_
 refine WO.nil ?_
 refine WX.next ?_
 refine WC.seq ?_
 refine WC.seq ?_
 refine WC.region ?_
 refine WO.v (R.move rfl) rfl ?_
 refine WO.v (R.eql rfl rfl) rfl ?_
 refine WO.nil ?_
 refine WX.next ?_
 refine WC.cond rfl (fun q=>absurd (of_decide_eq_true q) (by omega)) (fun _=>?_)
 refine WC.skip ?_
 refine WX.next ?_
 refine WC.seq ?_
 refine WC.region ?_
 refine WO.v (R.move rfl) rfl ?_
 refine WO.v (R.len rfl Tryz.underlying39) rfl ?_
 refine WO.v (R.assign rfl) rfl ?_
 refine WO.nil ?_
 refine WX.next ?_
 refine WC.seq ?_
 refine WC.seq ?_
 refine WC.region ?_
 refine WO.v (R.move rfl) rfl ?_
 refine WO.v (R.move rfl) rfl ?_
 refine WO.v (R.eql rfl rfl) rfl ?_
 refine WO.nil ?_
 refine WX.next ?_
 refine WC.cond rfl (fun q=>absurd (of_decide_eq_true q) (by omega)) (fun _=>?_)
 refine WC.skip ?_
 refine WX.next ?_
 refine WC.seq ?_
 refine WC.seq ?_
 refine WC.region ?_
 refine WO.v (R.move rfl) rfl ?_
 refine WO.v (R.move rfl) rfl ?_
 refine WO.v (R.jY rfl rfl (by omega)) rfl ?_
 refine WO.v (R.move rfl) rfl ?_
 refine WO.v (R.Ey rfl Tryz.underlying39) rfl ?_
 refine WO.v (R.gtr rfl rfl) rfl ?_
 refine WO.nil ?_
 refine WX.next ?_
 refine WC.cond rfl (fun q=>absurd (of_decide_eq_true q) (by omega)) (fun _=>?_)
 refine WC.skip ?_
 refine WX.next ?_
 refine WC.seq ?_
 refine WC.region ?_
 refine WO.v (R.move rfl) rfl ?_
 refine WO.v (R.move rfl) rfl ?_
 refine WO.v (R.move rfl) rfl ?_
 refine WO.v (R.jY rfl rfl (by omega)) rfl ?_
 refine WO.v (R.kB rfl rfl Tryz.underlying39 cr (dN (i:=0) (by omega)) (by omega)) rfl ?_
 refine WO.v (R.assign rfl) rfl ?_
 refine WO.nil ?_
 refine WX.next ?_
 refine WC.seq ?_
 refine WC.seq ?_
 refine WC.region ?_
 refine WO.v (R.move rfl) rfl ?_
 refine WO.v (R.move rfl) rfl ?_
 refine WO.v (R.move rfl) rfl ?_
 refine WO.v (R.move rfl) rfl ?_
 refine WO.v (R.jY rfl rfl (by omega)) rfl ?_
 refine WO.v (R.ck rfl rfl Tryz.underlying39 cr (dN (by omega)) (by omega)) rfl ?_
 refine WO.v (R.Sd (tS:=39) (tR:=4) Tryz.func101 rfl rfl (by kernel_rfl) (by kernel_rfl) Tryz.underlying39 cr hne hvb hvb0 hrow rfl rfl) rfl ?_
 refine WO.v (R.not rfl) rfl ?_
 refine WO.nil ?_
 refine WX.next ?_
 refine WC.wG rfl ?_
 refine WC.seq ?_
 refine WC.ov gl [.ex [] (.slice (some ⟨g,0,none⟩) (n+1) c),.ex [] (.int .i64 ((i:Nat):Int)),.ex [] (.int .i64 ((1:Nat):Int)),.ex [1,2] (.int .i64 ((i+1:Nat):Int)),.ex [0,3] (.slice (some ⟨g,(i+1)*4,none⟩) (n+1 - (i+1)) (c - (i+1))),.ex [] (.slice (some ⟨g,0,none⟩) (n+1) c),.ex [] (.int .i64 ((i:Nat):Int)),.ex [5,6] (.slice (some ⟨g,i*4,none⟩) (n+1 - i) (c - i))] 8 (by kernel_rfl) ⟨fun _ _ _ h _=>h,fun _ _ _ h _=>h,fun _ _ _ h _=>h,fun _ _ _ h _=>h,fun _ _ _ h _=>h,fun _ _ _ h _=>h,fun _ _ _ h _=>h,fun _ _ _ h _=>h,trivial⟩ ⟨?_,?_,?_,?_,?_,?_,?_,?_,trivial⟩ ?_
 ·rintro vs wd kd ⟨-⟩
  refine WO.br (fr':=[(0,.slice (some ⟨g,0,none⟩) (n+1) c)]) ⟨⟨_,rfl,rfl⟩,trivial⟩ ?_
  refine WO.v (R.move rfl) rfl ?_
  refine WO.nil ?_
  exact WX.aL rfl rfl (Kp.refl _)
 ·rintro vs wd kd ⟨-⟩
  refine WO.br (fr':=[(1,.int .i64 ((i:Nat):Int))]) ⟨⟨_,rfl,rfl⟩,trivial⟩ ?_
  refine WO.v (R.move rfl) rfl ?_
  refine WO.nil ?_
  exact WX.aL rfl rfl (Kp.refl _)
 ·rintro vs wd kd ⟨-⟩
  refine WO.br (fr':=[(7,.int .i64 ((1:Nat):Int))]) ⟨⟨_,rfl,rfl⟩,trivial⟩ ?_
  refine WO.v (R.move rfl) rfl ?_
  refine WO.nil ?_
  exact WX.aL rfl rfl (Kp.refl _)
 ·rintro vs wd kd ⟨e1,e2,-⟩
  refine WO.br (fr':=[(70,.int .i64 ((i:Nat):Int)),(71,.int .i64 ((1:Nat):Int))]) ⟨⟨_,rfl,e1⟩,⟨_,rfl,e2⟩,trivial⟩ ?_
  refine WO.v (R.jY rfl rfl (by omega)) rfl ?_
  refine WO.nil ?_
  exact WX.aL rfl rfl (Kp.refl _)
 ·rintro vs wd kd ⟨e0,e3,-⟩
  refine WO.br (fr':=[(69,.slice (some ⟨g,0,none⟩) (n+1) c),(72,.int .i64 ((i+1:Nat):Int))]) ⟨⟨_,rfl,e0⟩,⟨_,rfl,e3⟩,trivial⟩ ?_
  refine WO.v (R.ck rfl rfl Tryz.underlying39 cr (dN (by omega)) (by omega)) rfl ?_
  refine WO.nil ?_
  exact WX.aL rfl rfl (Kp.refl _)
 ·rintro vs wd kd ⟨-⟩
  refine WO.br (fr':=[(0,.slice (some ⟨g,0,none⟩) (n+1) c)]) ⟨⟨_,rfl,rfl⟩,trivial⟩ ?_
  refine WO.v (R.move rfl) rfl ?_
  refine WO.nil ?_
  exact WX.aL rfl rfl (Kp.refl _)
 ·rintro vs wd kd ⟨-⟩
  refine WO.br (fr':=[(1,.int .i64 ((i:Nat):Int))]) ⟨⟨_,rfl,rfl⟩,trivial⟩ ?_
  refine WO.v (R.move rfl) rfl ?_
  refine WO.nil ?_
  exact WX.aL rfl rfl (Kp.refl _)
 ·rintro vs wd kd ⟨e5,e6,-⟩
  refine WO.br (fr':=[(74,.slice (some ⟨g,0,none⟩) (n+1) c),(75,.int .i64 ((i:Nat):Int))]) ⟨⟨_,rfl,e5⟩,⟨_,rfl,e6⟩,trivial⟩ ?_
  refine WO.v (R.ck rfl rfl Tryz.underlying39 cr (dN (by omega)) (by omega)) rfl ?_
  refine WO.nil ?_
  exact WX.aL rfl rfl (Kp.refl _)
 rintro vsx w1 k1 ⟨-,-,-,-,e4,-,-,e7,-⟩
 replace k1:Kp [] w w1:=k1
 refine WO.br (fr':=[(73,.slice (some ⟨g,(i+1)*4,none⟩) (n+1 - (i+1)) (c - (i+1))),(76,.slice (some ⟨g,i*4,none⟩) (n+1 - i) (c - i)),(0,.slice (some ⟨g,0,none⟩) (n+1) c),(1,.int .i64 ((i:Nat):Int)),(2,.slice (some ad) 1 vc)]) ⟨⟨_,rfl,e4⟩,⟨_,rfl,e7⟩,⟨_,rfl,rfl⟩,⟨_,rfl,rfl⟩,⟨_,rfl,rfl⟩,trivial⟩ ?_
 have hg1:w1.heap[g]? = some (.cells (List.toArray cur) 82 (0,0)):=by rw [k1.block g (aZ hrow) (by simp)]; exact hrow
 refine WO.v (R.lq rfl rfl Tryz.underlying39 cr hg1 hn2 (hd.kp k1 (aZ hrow) (by simp)) (by omega) h1d) rfl ?_
 refine WO.nil ?_
 refine WX.next ?_
 have hg2:(w1.setRow g (cur.take ((i+1)*4)++ds++cur.drop ((i+1)*4+ds.length)).toArray).heap[g]? = some (.cells (List.toArray (cur.take ((i+1)*4)++ds++cur.drop ((i+1)*4+ds.length))) 82 (0,0)):=setRow_heap w1 g _ _ 82 _ hg1
 have hv2:CellsAt (w1.setRow g (cur.take ((i+1)*4)++ds++cur.drop ((i+1)*4+ds.length)).toArray) ad vs:=(hv.kp k1 (aZ hvb) (by simp)).kp (Kp.setRow w1 g _) (Nat.lt_of_lt_of_le (aZ hvb) k1.size) (by simpa using fun h=>hne h.symm)
 refine WC.seq ?_
 refine WC.region ?_
 refine WO.v (R.move rfl) rfl ?_
 refine WO.v (R.move rfl) rfl ?_
 refine WO.v (R.ck rfl rfl Tryz.underlying39 cr (dN (by omega)) (by omega)) rfl ?_
 refine WO.v (R.move rfl) rfl ?_
 refine WO.v (R.lq rfl rfl Tryz.underlying39 cr hg2 hn1 hv2 (by simp only [List.length_append,List.length_take,List.length_drop]; omega) h1v) rfl ?_
 refine WO.nil ?_
 refine WX.next ?_
 refine WC.seq ?_
 refine WC.region ?_
 refine WO.v (R.move rfl) rfl ?_
 refine WO.v (R.assign rfl) rfl ?_
 refine WO.nil ?_
 refine WX.next ?_
 refine WC.ret ?_
 refine WX.iG ?_
 refine WX.tY rfl rfl ?_
 exact ⟨rfl,w1,k1,rfl⟩
theorem sV {G:Gl} {ρ:List RE} {H:AH} {w:World} (hs:G.shp=ai tyT) (hR:Rep G ρ H w) {l m:List (den (.nm .sess))} (hH:getO H 0 = .row 82 (.nm .sess) l) (hl:l.length<1048576) {i:Nat} (hi:i<=l.length) {v0:Value} (h0:Rd (cx G ρ w) ρ (.own 0) v0)
  {ad:Addr} {k:Nat} {cys:List Value} {bAV:AV} (hm:m.length=1) (hb:Rd (cx G ρ w) ρ bAV (.slice (some ad) 1 k)) (hbv:(bAV.vw H).fV (.nm .sess)=some m) (hv:CellsAt w ad cys) (hvl:cys.length=4) (h1v:∀ u ∈ cys,u.oneCell' = true) (hp:Pds (cx G ρ w) (m.flatMap (cellsOf (.nm .sess))) cys)
  (hne:∀ g c n z,ρ[0]? = some (.row g c n z)->ad.block≠g) {curA:Array Value} {tA:TypeId} {fA:Nat × Nat} (hvb:w.heap[ad.block]? = some (.cells curA tA fA)) (hvb0:curA.size≠0) :
  gI Tryz.prog 64 [v0,.int .i64 (i:Int),.slice (some ad) 1 k].toArray w fun v w'=>∃ ρ',Stp (eC 0) ρ w ρ' w' /\ Rep G ρ' ((fp (AV.kill 0) H).set 0 (.row 82 (.nm .sess) (l.take i++m++l.drop i))) w' /\ Rd (cx G ρ' w') ρ' (.own 0) v:=by
 have hT:bk Tryz.prog G.shp tyT:=hs ▸ cF
 obtain ⟨hshp,hlen⟩:=dp hR hH
 have hl64:l.length<=9223372036854775807:=by omega
 have hin:((l.length:Nat):Int)<=9223372036854775807:=by omega
 by_cases hie:i=l.length
 ·subst hie
  have hc:∃ A c,v0 = .slice A l.length c:=by
   rcases h0 with ⟨g,cap,len,z,h1,rfl⟩ | ⟨h1,a,rfl⟩
   ·rcases bu hR hH with ⟨h2,_⟩ | ⟨g',cap',cells,sp,h2,_⟩
    ·rw [h1] at h2; cases h2
    ·rw [h1] at h2; cases h2; exact ⟨_,_,rfl⟩
   ·rcases bu hR hH with ⟨_,h2⟩ | ⟨g',cap',cells,sp,h2,_⟩
    ·subst h2; exact ⟨_,_,rfl⟩
    ·rw [h1] at h2; cases h2
  obtain ⟨A,c,rfl⟩:=hc
  refine ra fun F x y ty hx hy=>?_
  have happ:gr tyT (eC 0) ([]:AFr) H 39 (.own 0) bAV=some ⟨one (.own 0),[],(fp (AV.kill 0) H).set 0 (.row 82 (.nm .sess) (l++m)),[(l.length+m.length)*(Sh.nm NT.sess).bytes<=140737488355328],[]⟩:=by
   unfold gr
   rw [show bp tyT 39=some ⟨.sl 82 (some (.nm .sess)),1,[.em true]⟩ from by kernel_rfl]
   simp only [hbv,hH]
   rfl
  obtain ⟨v,w',h1,ρ',h2,h3,_,h5,_⟩:=gB (P:=Tryz.prog) (n:=95) (F:=[]) (ty:=ty) (fr:=[]) (x:=.const (.slice A l.length c)) (y:=.const (.slice (some ad) 1 k)) hT hR .nil happ (by
   intro p hp
   rw [List.mem_singleton] at hp; subst hp
   show (l.length+m.length)*32<=_
   omega) h0 hb rfl rfl
  refine ⟨v,w',R.wi h1 hx hy,ρ',h2,?_,h5⟩
  rw [List.take_length,List.drop_length,List.append_nil]
  exact h3
 ·have hlt:i<l.length:=by omega
  rcases bu hR hH with ⟨_,h2⟩ | ⟨g,cap,cells,sp,hρ,hg,hpd,hsz,hcap,hmax⟩
  ·subst h2; simp at hlt
  obtain ⟨hnb,hil,hiH⟩:=kr hR hH
  have hv0:v0 = .slice (some ⟨g,0,none⟩) l.length cap:=by
   rcases h0 with ⟨g',cap',len,z,h1,rfl⟩ | ⟨h1,a,rfl⟩
   ·rw [hρ] at h1; cases h1; rfl
   ·rw [hρ] at h1; cases h1
  subst hv0
  have hz:(Sh.nm NT.sess).size=4:=rfl
  have hby:(Sh.nm NT.sess).bytes=32:=rfl
  have hcl:cells.length=l.length*4:=by rw [<- hpd.length,bN,hz]
  rw [hz,List.length_append] at hsz
  have hone:∀ u ∈ cells.drop (i*4),u.oneCell' = true:=fun u hu=>hpd.Ae u (List.mem_of_mem_drop hu)
  have hd:CellsAt w ⟨g,i*4,none⟩ (cells.drop (i*4)):=by
   have:=(cf hg).shift (i*4)
   rwa [add_lit,Nat.zero_add] at this
  have hdl:(cells.drop (i*4)).length=(l.length - i)*4:=by rw [List.length_drop,hcl]; omega
  have hgl:=aZ hg
  have hzl:(l.take i++m++l.drop i).length=l.length+1:=by
   rw [List.length_append,List.length_append,List.length_take,List.length_drop,hm]; omega
  have hnew:∀ {c:Cx},(cx G ρ w).le c->Pds c ((l.take i++m++l.drop i).flatMap (cellsOf (.nm .sess))) (cells.take (i*4)++cys++cells.drop (i*4)):=fun {c} hle=>by
   rw [List.flatMap_append,List.flatMap_append]
   exact (((bI hpd i).append hp).append (bS hpd i)).carry hle
  have hnl:(cells.take (i*4)++cys++cells.drop (i*4)).length=(l.length+1)*4:=by
   rw [List.length_append,List.length_append,List.length_take,List.length_drop,hcl,hvl]; omega
  have hbig:(l.take i++m++l.drop i).length*(Sh.nm NT.sess).bytes<=140737488355328:=by rw [hzl,hby]; omega
  -- what is shown of any way
  have fin:∀ (S:List Nat) (g2 cap2:Nat) (sp2:List Value) (w':World),Kp S w w' -> (∀ b ∈ S,b=g)->(g2=g\/w.heap.size<=g2)->w'.heap[g2]? = some (.cells (List.toArray (cells.take (i*4)++cys++cells.drop (i*4)++sp2)) 82 (0,0))->(l.length+1)*4+sp2.length=cap2*4->l.length+1<=cap2->cap2<=maxLen ->
    ∃ ρ',Stp (eC 0) ρ w ρ' w' /\ Rep G ρ' ((fp (AV.kill 0) H).set 0 (.row 82 (.nm .sess) (l.take i++m++l.drop i))) w' /\ Rd (cx G ρ' w') ρ' (.own 0) (.slice (some ⟨g2,0,none⟩) (l.length+1) cap2):=by
   intro S g2 cap2 sp2 w' hk hS hg2 hh hlen2 hle2 hmax2
   obtain ⟨k1,k2,_⟩:=jT (ro:=eC 0) (s':=.nm .sess) (e':=82) (zs:=l.take i++m++l.drop i) hR hH ⟨rfl,rfl⟩ hk (fun b hb=>⟨_,hρ,by rw [hS b hb]; rfl⟩) (r':=.row g2 cap2 (l.take i++m++l.drop i).length (Sh.nm NT.sess).size) (fun b hb=>by
    cases hb
    rcases hg2 with rfl | hg2
    ·exact .inl ⟨_,hρ,rfl⟩
    ·exact .inr ⟨hg2,aZ hh⟩) (fun hle=>⟨hshp,hbig,.inr ⟨g2,cap2,_,sp2,rfl,hh,hnew hle,by rw [List.length_append,hnl,hz]; exact hlen2,by rw [hzl]; exact hle2,hmax2⟩⟩)
   exact ⟨_,k1,k2,.inl ⟨g2,cap2,_,_,List.getElem?_set_self hil,by rw [hzl]⟩⟩
  have eo:(i+1)*4=i*4+4:=by omega
  by_cases hroom:l.length+1<=cap
  ·refine (oa hlt hroom hmax hg (by rw [List.length_append]; omega) hv hvb hvb0 (hne _ _ _ _ hρ) hvl hd hdl h1v hone).mono fun v w' ⟨e1,w1,k1,e2⟩=>?_
   subst e1; subst e2
   rw [eo,Ij (by omega) hvl]
   have hk:Kp [g] w ((w1.setRow g ((cells++sp).take (i*4+4)++cells.drop (i*4)++(cells++sp).drop (i*4+4+(cells.drop (i*4)).length)).toArray).setRow g (cells.take (i*4)++cys++cells.drop (i*4)++sp.drop 4).toArray):=((k1.sub (by simp)).step (Kp.setRow w1 g _) (by simp)).step (Kp.setRow _ g _) (by simp)
   have hg1:w1.heap[g]? = some (.cells (List.toArray (cells++sp)) 82 (0,0)):=by rw [k1.block g hgl (by simp)]; exact hg
   exact fin [g] g cap (sp.drop 4) _ hk (by simp) (.inl rfl) (setRow_heap _ g _ _ 82 _ (setRow_heap w1 g _ _ 82 _ hg1)) (by rw [List.length_drop]; omega) hroom hmax
  ·obtain ⟨ti,hi0,hz0,hz1,hz2⟩:=info_parts Cf
   have eik:i+(l.length+1 - i)=l.length+1:=by omega
   have hge:=grownCap_ge w (l.length+1) cap 82
   have hgm:=grownCap_le_maxLen w (l.length+1) cap 82 (by simp [maxLen]; omega)
   have hold:(Builtin.firstCells ti.size i (.slice (some ⟨g,0*4,none⟩) i cap)).run Tryz.prog w.drew = .ok (cells.take (i*4)).toArray w.drew:=by
    have h:=run_loadCells_list (P:=Tryz.prog) w.drew ⟨g,0*4,none⟩ (cells.take (i*4)) (by rw [Nat.zero_mul]; exact (cf hg).take _)
    rw [List.length_take,Nat.min_eq_left (by omega)] at h
    rw [hz1]; exact h
   have happ:∀ (F:Fr) (x y:Operand) (ty:TypeId),ev F x=some (.slice (some ⟨g,0*4,none⟩) i cap)->ev F y=some (.int .i64 ((l.length+1 - i:Nat):Int))->aO Tryz.prog 95 F w (.call { callee:=.builtin .append,args:=#[x,y],argTypes:=#[39,3] }) ty (.slice (some ⟨w.heap.size,0,none⟩) (l.length+1) (grownCap w (l.length+1) cap 82)) (w.drew.alloc (.cells (List.toArray (cells.take (i*4)++((Builtin.zeroCells (Value.agg #[.int .i64 0,.int .i64 0,.int .i64 0,.int .i64 0]).cells (l.length+1 - i)).toList++(Builtin.zeroCells (Value.agg #[.int .i64 0,.int .i64 0,.int .i64 0,.int .i64 0]).cells (grownCap w (l.length+1) cap 82 - (l.length+1))).toList))) 82)):=fun F x y ty hx hy=>by
    have h:=R.OB (P:=Tryz.prog) (n:=95) (ty:=ty) hx hy Tryz.underlying39 Tryz.underlying3 hi0 hz0 hold (by omega) (by rw [hz1]; decide) (by omega) (by omega) (by rw [hz2]; omega) (by rw [hz2,eik]; exact growslice_fits (by omega) (by omega))
    rw [eik] at h
    have e:∀ (a:List Value) (b c:Array Value),a.toArray++b++c=(a++(b.toList++c.toList)).toArray:=fun a b c=>by apply Array.ext'; simp
    rw [e] at h
    exact h
   have hcurl:(cells.take (i*4)++((Builtin.zeroCells (Value.agg #[.int .i64 0,.int .i64 0,.int .i64 0,.int .i64 0]).cells (l.length+1 - i)).toList++(Builtin.zeroCells (Value.agg #[.int .i64 0,.int .i64 0,.int .i64 0,.int .i64 0]).cells (grownCap w (l.length+1) cap 82 - (l.length+1))).toList)).length=grownCap w (l.length+1) cap 82*4:=by
    rw [List.length_append,List.length_append,List.length_take,na,na]
    show min _ _+((l.length+1 - i)*4+(grownCap w (l.length+1) cap 82 - (l.length+1))*4)=_
    omega
   have htk:(cells.take (i*4)++((Builtin.zeroCells (Value.agg #[.int .i64 0,.int .i64 0,.int .i64 0,.int .i64 0]).cells (l.length+1 - i)).toList++(Builtin.zeroCells (Value.agg #[.int .i64 0,.int .i64 0,.int .i64 0,.int .i64 0]).cells (grownCap w (l.length+1) cap 82 - (l.length+1))).toList)).take (i*4)=cells.take (i*4):=List.take_left' (by rw [List.length_take]; omega)
   generalize grownCap w (l.length+1) cap 82=GC at *
   generalize cells.take (i*4)++((Builtin.zeroCells (Value.agg #[.int .i64 0,.int .i64 0,.int .i64 0,.int .i64 0]).cells (l.length+1 - i)).toList++(Builtin.zeroCells (Value.agg #[.int .i64 0,.int .i64 0,.int .i64 0,.int .i64 0]).cells (GC - (l.length+1))).toList)=cur at *
   have hK1:Kp [] w (w.drew.alloc (.cells (List.toArray cur) 82)):=((Kp.refl w).drew).step (Kp.alloc w.drew _) (by simp)
   have hrow:(w.drew.alloc (.cells (List.toArray cur) 82)).heap[w.heap.size]? = some (.cells (List.toArray cur) 82 (0,0)):=heap_alloc_new w.drew _
   generalize w.drew.alloc (.cells (List.toArray cur) 82)=W1 at *
   refine (py hlt hcap (by omega) hmax hge hgm happ hrow (by omega) (hv.kp hK1 (aZ hvb) (by simp)) hvl (hd.kp hK1 hgl (by simp)) (by omega) (Nat.lt_of_lt_of_le hgl hK1.size) hdl h1v hone).mono fun v w' ⟨e1,w1,k1,e2⟩=>?_
   subst e1; subst e2
   rw [eo,Ix (cells:=cells) (by omega) hvl htk]
   have hs1:∀ b ∈ [w.heap.size],b ∈ ([]:List Nat)\/w.heap.size<=b:=fun b hb=>.inr (by rw [List.mem_singleton] at hb; omega)
   have hk:Kp [] w (w1.setRow w.heap.size (cells.take (i*4)++cys++cells.drop (i*4)++cur.drop (i*4+4+(cells.drop (i*4)).length)).toArray):=((hK1.step (Kp.setRow W1 w.heap.size _) hs1).step k1 (by simp)).step (Kp.setRow w1 w.heap.size _) hs1
   have hg1:=(k1.block w.heap.size (by simpa using aZ hrow) (by simp)).trans (setRow_heap W1 w.heap.size _ (cur.take (i*4)++cys++cur.drop (i*4+cys.length)).toArray 82 _ hrow)
   exact fin [] w.heap.size GC _ _ hk (by simp) (.inr (Nat.le_refl _)) (setRow_heap w1 w.heap.size _ _ 82 _ hg1) (by rw [List.length_drop]; omega) hge hgm
theorem pF (i:Int) (l m:List (den (.nm .sess))) (h:0<=i/\i<=(l.length:Int)) (hl:l.length<1048576) (hm:m.length=1):Sat Tryz.prog (ai tyT) 64 [.c (.own 0),.c (.int i),.c (.own 1)] [.row 82 (.nm .sess) l,.row 82 (.nm .sess) m] ⟨[0<=i/\i<=(l.length:Int),l.length<1048576,m.length=1],[.c (.own 0)],some [.row 82 (.nm .sess) (l.take i.toNat++m++l.drop i.toNat),.row 82 (.nm .sess) m],false⟩:=by
 refine ⟨⟨_,Tryz.func64,by decide,rfl⟩,fun G ρ w vs hs hR hvs=>?_⟩
 obtain ⟨i,rfl⟩:=Int.eq_ofNat_of_zero_le h.1
 cases hvs with | cons h0 hvs=>
 cases hvs with | cons h1 hvs=>
 cases hvs with | cons h2 hvs=>
 cases hvs
 have h1:Pd (cx G ρ w) (.int (i:Int)) _:=h1
 cases h1
 have h0:Rd (cx G ρ w) ρ (.own 0) _:=h0
 have h2:Rd (cx G ρ w) ρ (.own 1) _:=h2
 have hH:getO [AO.row 82 (.nm .sess) l,.row 82 (.nm .sess) m] 0 = .row 82 (.nm .sess) l:=rfl
 have hbv:(AV.vw [AO.row 82 (.nm .sess) l,.row 82 (.nm .sess) m] (.own 1)).fV (.nm .sess)=some m:=by simp [AV.vw,AV.fV,getO]
 obtain ⟨A,k,cys,rfl,s1,s2,s3,s4⟩:=nc hR hbv h2
 rw [hm] at h2 s1 s3
 rw [hm]
 obtain ⟨ad,rfl,s5⟩:∃ ad,A=some ad/\CellsAt w ad cys:=s3.resolve_left (by decide)
 have hz:(Sh.nm NT.sess).size=4:=rfl
 rw [hz] at s1
 obtain ⟨u,hu⟩:∃ u,cys[0]? = some u:=⟨_,List.getElem?_eq_getElem (by omega)⟩
 obtain ⟨cur,t,f,hc,hc0⟩:=oS (s5 0 u hu)
 have hne:∀ g c n z,ρ[0]? = some (.row g c n z)->ad.block≠g:=fun g c n z hg e=>by
  rcases h2 with ⟨g',cap',len,z',h3,h4⟩ | ⟨h3,a,h4⟩
  ·cases h4
   have:=hR.inj 0 1 _ _ g hg h3 rfl (by rw [<- e]; rfl)
   omega
  ·cases h4
 rw [fK] at hc
 refine (sV hs hR hH hl (by omega) h0 hm h2 hbv s5 s1 s2 s4 hne hc hc0).mono fun v w' ⟨ρ',k1,k2,k3⟩=>?_
 exact ⟨[v],rfl,ρ',k2,k1.ext,k1.bx,.cons k3 .nil,fun hb=>by cases hb⟩
theorem cC:(Tryz.prog.info? 63).map (·.size)=some 2:=by kernel_rfl
theorem wI:(Tryz.prog.info? 63).map (fun i=>(i.zero,i.size,i.bytes))=some (some (.agg #[.int .i64 0,.int .i64 0]),2,16):=by kernel_rfl
set_option maxRecDepth 100000 in
set_option maxHeartbeats 1000000 in
theorem uy {w:World} {n c vc:Nat} {A:Option Addr} {B:Option Addr} {φ:Value->World->Prop} (happ:∀ (F:Fr) (x y:Operand) (ty:TypeId),ev F x=some (.slice A n c)->ev F y=some (.slice B 1 vc)->∃ v2 w2,aO Tryz.prog 95 F w (.call { callee:=.builtin .append,args:=#[x,y],argTypes:=#[40,40] }) ty v2 w2/\φ v2 w2) :
  gI Tryz.prog 176 [.slice A n c,.int .i64 (n:Int),.slice B 1 vc].toArray w φ:=by
 refine gI.enter Tryz.func176 rfl rfl rfl rfl ?_
 refine WC.seq ?_
 refine WC.region ?_
 refine WO.v (R.assign rfl) rfl ?_
 refine WO.nil ?_
 refine WX.next ?_
 refine WC.seq ?_
 refine WC.region ?_
 refine WO.v (R.move rfl) rfl ?_
 refine WO.v (R.move rfl) rfl ?_
 refine WO.v (R.ck rfl rfl Tryz.underlying40 cC rfl (by omega)) rfl ?_
 refine WO.nil ?_
 refine WX.next ?_
 refine WC.seq ?_
 refine WC.region ?_
 refine WO.v (R.move rfl) rfl ?_
 refine WO.v (R.len rfl Tryz.underlying40) rfl ?_
 refine WO.v (R.assign rfl) rfl ?_
 refine WO.nil ?_
 refine WX.next ?_
 refine WC.seq ?_
 refine WC.seq ?_
 refine WC.region ?_
 refine WO.v (R.move rfl) rfl ?_
 refine WO.v (R.eql rfl rfl) rfl ?_
 refine WO.nil ?_
 refine WX.next ?_
 refine WC.cond rfl (fun q=>absurd (of_decide_eq_true q) (by omega)) (fun _=>?_)
 refine WC.skip ?_
 refine WX.next ?_
 refine WC.seq ?_
 refine WC.region ?_
 refine WO.v (R.move rfl) rfl ?_
 refine WO.v (R.len rfl Tryz.underlying40) rfl ?_
 refine WO.v (R.assign rfl) rfl ?_
 refine WO.nil ?_
 refine WX.next ?_
 refine WC.seq ?_
 refine WC.seq ?_
 refine WC.region ?_
 refine WO.v (R.move rfl) rfl ?_
 refine WO.v (R.move rfl) rfl ?_
 refine WO.v (R.eql rfl rfl) rfl ?_
 refine WO.nil ?_
 refine WX.next ?_
 refine WC.cond rfl (fun _=>?_) (fun q=>absurd rfl (of_decide_eq_false q))
 refine WC.seq ?_
 refine WC.region ?_
 refine WO.v (R.move rfl) rfl ?_
 refine WO.v (R.move rfl) rfl ?_
 refine WO.ve (happ _ _ _ _ rfl rfl) rfl fun v2 w2 hv2=>?_
 refine WO.v (R.assign rfl) rfl ?_
 refine WO.nil ?_
 refine WX.next ?_
 refine WC.ret ?_
 refine WX.iG ?_
 refine WX.tY rfl rfl ?_
 exact hv2
set_option maxRecDepth 100000 in
set_option maxHeartbeats 1000000 in
theorem tC {w W1:World} {g b n i c vc G:Nat} {ad:Addr} {cur vs ds:List Value} (hi:i<n) (hnc:n<=c) (hc:c<n+1) (hcm:c<=maxLen) (hG:n+1<=G) (hGm:G<=maxLen)
  (happ:∀ (F:Fr) (x y:Operand) (ty:TypeId),ev F x=some (.slice (some ⟨g,0*2,none⟩) i c)->ev F y=some (.int .i64 ((n+1 - i:Nat):Int))->aO Tryz.prog 95 F w (.call { callee:=.builtin .append,args:=#[x,y],argTypes:=#[40,3] }) ty (.slice (some ⟨b,0,none⟩) (n+1) G) W1)
  (hrow:W1.heap[b]? = some (.cells cur.toArray 63 (0,0))) (hcur:(n+1)*2<=cur.length) (hv:CellsAt W1 ad vs) (hvl:vs.length=2) (hd:CellsAt W1 ⟨g,i*2,none⟩ ds) (hgb:g≠b) (hgl:g<W1.heap.size) (hdl:ds.length=(n - i)*2)
  (h1v:∀ u ∈ vs,u.oneCell' = true) (h1d:∀ u ∈ ds,u.oneCell' = true) :
  gI Tryz.prog 176 [.slice (some ⟨g,0,none⟩) n c,.int .i64 (i:Int),.slice (some ad) 1 vc].toArray w fun v w'=>v = .slice (some ⟨b,0,none⟩) (n+1) G/\∃ w1,Kp [] (W1.setRow b (cur.take (i*2)++vs++cur.drop (i*2+vs.length)).toArray) w1/\w' = w1.setRow b ((cur.take (i*2)++vs++cur.drop (i*2+vs.length)).take ((i+1)*2)++ds++(cur.take (i*2)++vs++cur.drop (i*2+vs.length)).drop ((i+1)*2+ds.length)).toArray:=by
 have hGm:G<=9223372036854775807:=hGm
 have hcm:c<=9223372036854775807:=hcm
 have hn1:vs.length=Nat.min 1 (n+1 - i)*2:=by rw [show Nat.min 1 (n+1 - i)=1 from Nat.min_eq_left (by omega),Nat.one_mul]; exact hvl
 have hn2:ds.length=Nat.min (n - i) (n+1 - (i+1))*2:=by rw [show Nat.min (n - i) (n+1 - (i+1))=n - i from Nat.min_eq_left (by omega)]; exact hdl
 refine gI.enter Tryz.func176 rfl rfl rfl rfl ?_
 refine WC.seq ?_
 refine WC.region ?_
 refine WO.v (R.assign rfl) rfl ?_
 refine WO.nil ?_
 refine WX.next ?_
 refine WC.seq ?_
 refine WC.region ?_
 refine WO.v (R.move rfl) rfl ?_
 refine WO.v (R.move rfl) rfl ?_
 refine WO.v (R.ck rfl rfl Tryz.underlying40 cC rfl (by omega)) rfl ?_
 refine WO.nil ?_
 refine WX.next ?_
 refine WC.seq ?_
 refine WC.region ?_
 refine WO.v (R.move rfl) rfl ?_
 refine WO.v (R.len rfl Tryz.underlying40) rfl ?_
 refine WO.v (R.assign rfl) rfl ?_
 refine WO.nil ?_
 refine WX.next ?_
 refine WC.seq ?_
 refine WC.seq ?_
 refine WC.region ?_
 refine WO.v (R.move rfl) rfl ?_
 refine WO.v (R.eql rfl rfl) rfl ?_
 refine WO.nil ?_
 refine WX.next ?_
 refine WC.cond rfl (fun q=>absurd (of_decide_eq_true q) (by omega)) (fun _=>?_)
 refine WC.skip ?_
 refine WX.next ?_
 refine WC.seq ?_
 refine WC.region ?_
 refine WO.v (R.move rfl) rfl ?_
 refine WO.v (R.len rfl Tryz.underlying40) rfl ?_
 refine WO.v (R.assign rfl) rfl ?_
 refine WO.nil ?_
 refine WX.next ?_
 refine WC.seq ?_
 refine WC.seq ?_
 refine WC.region ?_
 refine WO.v (R.move rfl) rfl ?_
 refine WO.v (R.move rfl) rfl ?_
 refine WO.v (R.eql rfl rfl) rfl ?_
 refine WO.nil ?_
 refine WX.next ?_
 refine WC.cond rfl (fun q=>absurd (of_decide_eq_true q) (by omega)) (fun _=>?_)
 refine WC.skip ?_
 refine WX.next ?_
 refine WC.seq ?_
 refine WC.seq ?_
 refine WC.region ?_
 refine WO.v (R.move rfl) rfl ?_
 refine WO.v (R.move rfl) rfl ?_
 refine WO.v (R.jY rfl rfl (by omega)) rfl ?_
 refine WO.v (R.move rfl) rfl ?_
 refine WO.v (R.Ey rfl Tryz.underlying40) rfl ?_
 refine WO.v (R.gtr rfl rfl) rfl ?_
 refine WO.nil ?_
 refine WX.next ?_
 refine WC.cond rfl (fun _=>?_) (fun q=>absurd (by omega) (of_decide_eq_false q))
 refine WC.seq ?_
 refine WC.region ?_
 refine WO.v (R.move rfl) rfl ?_
 refine WO.v (R.move rfl) rfl ?_
 refine WO.v (R.kB rfl rfl Tryz.underlying40 cC (dN (i:=0) (by omega)) (by omega)) rfl ?_
 refine WO.v (R.move rfl) rfl ?_
 refine WO.v (R.move rfl) rfl ?_
 refine WO.v (R.jY rfl rfl (by omega)) rfl ?_
 refine WO.v (R.move rfl) rfl ?_
 refine WO.v (R.Nk rfl rfl (by omega) (by omega)) rfl ?_
 refine WO.v (happ _ _ _ _ rfl rfl) rfl ?_
 refine WO.v (R.assign rfl) rfl ?_
 refine WO.nil ?_
 refine WX.next ?_
 refine WC.seq ?_
 refine WC.region ?_
 refine WO.v (R.move rfl) rfl ?_
 refine WO.v (R.move rfl) rfl ?_
 refine WO.v (R.ck rfl rfl Tryz.underlying40 cC (dN (by omega)) (by omega)) rfl ?_
 refine WO.v (R.move rfl) rfl ?_
 refine WO.v (R.lq rfl rfl Tryz.underlying40 cC hrow hn1 hv (by omega) h1v) rfl ?_
 refine WO.nil ?_
 refine WX.next ?_
 refine WC.seq ?_
 refine WC.ov gl [.ex [] (.slice (some ⟨b,0,none⟩) (n+1) G),.ex [] (.int .i64 ((i:Nat):Int)),.ex [] (.int .i64 ((1:Nat):Int)),.ex [1,2] (.int .i64 ((i+1:Nat):Int)),.ex [0,3] (.slice (some ⟨b,(i+1)*2,none⟩) (n+1 - (i+1)) (G - (i+1))),.ex [] (.slice (some ⟨g,0,none⟩) n c),.ex [] (.int .i64 ((i:Nat):Int)),.ex [5,6] (.slice (some ⟨g,i*2,none⟩) (n - i) (c - i))] 8 (by kernel_rfl) ⟨fun _ _ _ h _=>h,fun _ _ _ h _=>h,fun _ _ _ h _=>h,fun _ _ _ h _=>h,fun _ _ _ h _=>h,fun _ _ _ h _=>h,fun _ _ _ h _=>h,fun _ _ _ h _=>h,trivial⟩ ⟨?_,?_,?_,?_,?_,?_,?_,?_,trivial⟩ ?_
 ·rintro vs wd kd ⟨-⟩
  refine WO.br (fr':=[(9,.slice (some ⟨b,0,none⟩) (n+1) G)]) ⟨⟨_,rfl,rfl⟩,trivial⟩ ?_
  refine WO.v (R.move rfl) rfl ?_
  refine WO.nil ?_
  exact WX.aL rfl rfl (Kp.refl _)
 ·rintro vs wd kd ⟨-⟩
  refine WO.br (fr':=[(1,.int .i64 ((i:Nat):Int))]) ⟨⟨_,rfl,rfl⟩,trivial⟩ ?_
  refine WO.v (R.move rfl) rfl ?_
  refine WO.nil ?_
  exact WX.aL rfl rfl (Kp.refl _)
 ·rintro vs wd kd ⟨-⟩
  refine WO.br (fr':=[(7,.int .i64 ((1:Nat):Int))]) ⟨⟨_,rfl,rfl⟩,trivial⟩ ?_
  refine WO.v (R.move rfl) rfl ?_
  refine WO.nil ?_
  exact WX.aL rfl rfl (Kp.refl _)
 ·rintro vs wd kd ⟨e1,e2,-⟩
  refine WO.br (fr':=[(47,.int .i64 ((i:Nat):Int)),(48,.int .i64 ((1:Nat):Int))]) ⟨⟨_,rfl,e1⟩,⟨_,rfl,e2⟩,trivial⟩ ?_
  refine WO.v (R.jY rfl rfl (by omega)) rfl ?_
  refine WO.nil ?_
  exact WX.aL rfl rfl (Kp.refl _)
 ·rintro vs wd kd ⟨e0,e3,-⟩
  refine WO.br (fr':=[(46,.slice (some ⟨b,0,none⟩) (n+1) G),(49,.int .i64 ((i+1:Nat):Int))]) ⟨⟨_,rfl,e0⟩,⟨_,rfl,e3⟩,trivial⟩ ?_
  refine WO.v (R.ck rfl rfl Tryz.underlying40 cC (dN (by omega)) (by omega)) rfl ?_
  refine WO.nil ?_
  exact WX.aL rfl rfl (Kp.refl _)
 ·rintro vs wd kd ⟨-⟩
  refine WO.br (fr':=[(0,.slice (some ⟨g,0,none⟩) n c)]) ⟨⟨_,rfl,rfl⟩,trivial⟩ ?_
  refine WO.v (R.move rfl) rfl ?_
  refine WO.nil ?_
  exact WX.aL rfl rfl (Kp.refl _)
 ·rintro vs wd kd ⟨-⟩
  refine WO.br (fr':=[(1,.int .i64 ((i:Nat):Int))]) ⟨⟨_,rfl,rfl⟩,trivial⟩ ?_
  refine WO.v (R.move rfl) rfl ?_
  refine WO.nil ?_
  exact WX.aL rfl rfl (Kp.refl _)
 ·rintro vs wd kd ⟨e5,e6,-⟩
  refine WO.br (fr':=[(51,.slice (some ⟨g,0,none⟩) n c),(52,.int .i64 ((i:Nat):Int))]) ⟨⟨_,rfl,e5⟩,⟨_,rfl,e6⟩,trivial⟩ ?_
  refine WO.v (R.ck rfl rfl Tryz.underlying40 cC (dN (by omega)) (by omega)) rfl ?_
  refine WO.nil ?_
  exact WX.aL rfl rfl (Kp.refl _)
 rintro vsx w1 k1 ⟨-,-,-,-,e4,-,-,e7,-⟩
 replace k1:Kp [] (W1.setRow b (cur.take (i*2)++vs++cur.drop (i*2+vs.length)).toArray) w1:=k1
 refine WO.br (fr':=[(50,.slice (some ⟨b,(i+1)*2,none⟩) (n+1 - (i+1)) (G - (i+1))),(53,.slice (some ⟨g,i*2,none⟩) (n - i) (c - i)),(9,.slice (some ⟨b,0,none⟩) (n+1) G)]) ⟨⟨_,rfl,e4⟩,⟨_,rfl,e7⟩,⟨_,rfl,rfl⟩,trivial⟩ ?_
 have hb2:w1.heap[b]? = some (.cells (List.toArray (cur.take (i*2)++vs++cur.drop (i*2+vs.length))) 63 (0,0)):=by rw [k1.block b (by simpa using aZ hrow) (by simp)]; exact setRow_heap W1 b _ _ 63 _ hrow
 have hd2:CellsAt w1 ⟨g,i*2,none⟩ ds:=(hd.kp (Kp.setRow W1 b _) hgl (by simpa using hgb.symm)).kp k1 (by simpa using hgl) (by simp)
 refine WO.v (R.lq rfl rfl Tryz.underlying40 cC hb2 hn2 hd2 (by simp only [List.length_append,List.length_take,List.length_drop]; omega) h1d) rfl ?_
 refine WO.nil ?_
 refine WX.next ?_
 refine WC.seq ?_
 refine WC.region ?_
 refine WO.v (R.move rfl) rfl ?_
 refine WO.v (R.assign rfl) rfl ?_
 refine WO.nil ?_
 refine WX.next ?_
 refine WC.ret ?_
 refine WX.iG ?_
 refine WX.tY rfl rfl ?_
 exact ⟨rfl,w1,k1,rfl⟩
set_option maxRecDepth 100000 in
set_option maxHeartbeats 1000000 in
theorem ph {w:World} {g n i c vc:Nat} {ad:Addr} {cur vs ds:List Value} {curA:Array Value} {tA:TypeId} {fA:Nat × Nat} (hi:i<n) (hc:n+1<=c) (hcm:c<=maxLen)
  (hrow:w.heap[g]? = some (.cells cur.toArray 63 (0,0))) (hcur:(n+1)*2<=cur.length) (hv:CellsAt w ad vs) (hvb:w.heap[ad.block]? = some (.cells curA tA fA)) (hvb0:curA.size≠0) (hne:ad.block≠g) (hvl:vs.length=2) (hd:CellsAt w ⟨g,i*2,none⟩ ds) (hdl:ds.length=(n - i)*2)
  (h1v:∀ u ∈ vs,u.oneCell' = true) (h1d:∀ u ∈ ds,u.oneCell' = true) :
  gI Tryz.prog 176 [.slice (some ⟨g,0,none⟩) n c,.int .i64 (i:Int),.slice (some ad) 1 vc].toArray w fun v w'=>v = .slice (some ⟨g,0,none⟩) (n+1) c/\∃ w1,Kp [] w w1/\w' = (w1.setRow g (cur.take ((i+1)*2)++ds++cur.drop ((i+1)*2+ds.length)).toArray).setRow g ((cur.take ((i+1)*2)++ds++cur.drop ((i+1)*2+ds.length)).take (i*2)++vs++(cur.take ((i+1)*2)++ds++cur.drop ((i+1)*2+ds.length)).drop (i*2+vs.length)).toArray:=by
 have hcm:c<=9223372036854775807:=hcm
 have hn1:vs.length=Nat.min 1 (n+1 - i)*2:=by rw [show Nat.min 1 (n+1 - i)=1 from Nat.min_eq_left (by omega),Nat.one_mul]; exact hvl
 have hn2:ds.length=Nat.min (n+1 - i) (n+1 - (i+1))*2:=by rw [show Nat.min (n+1 - i) (n+1 - (i+1))=n+1 - (i+1) from Nat.min_eq_right (by omega),hdl]; congr 1; omega
 refine gI.enter Tryz.func176 rfl rfl rfl rfl ?_
 refine WC.seq ?_
 refine WC.region ?_
 refine WO.v (R.assign rfl) rfl ?_
 refine WO.nil ?_
 refine WX.next ?_
 refine WC.seq ?_
 refine WC.region ?_
 refine WO.v (R.move rfl) rfl ?_
 refine WO.v (R.move rfl) rfl ?_
 refine WO.v (R.ck rfl rfl Tryz.underlying40 cC rfl (by omega)) rfl ?_
 refine WO.nil ?_
 refine WX.next ?_
 refine WC.seq ?_
 refine WC.region ?_
 refine WO.v (R.move rfl) rfl ?_
 refine WO.v (R.len rfl Tryz.underlying40) rfl ?_
 refine WO.v (R.assign rfl) rfl ?_
 refine WO.nil ?_
 refine WX.next ?_
 refine WC.seq ?_
 refine WC.seq ?_
 refine WC.region ?_
 refine WO.v (R.move rfl) rfl ?_
 refine WO.v (R.eql rfl rfl) rfl ?_
 refine WO.nil ?_
 refine WX.next ?_
 refine WC.cond rfl (fun q=>absurd (of_decide_eq_true q) (by omega)) (fun _=>?_)
 refine WC.skip ?_
 refine WX.next ?_
 refine WC.seq ?_
 refine WC.region ?_
 refine WO.v (R.move rfl) rfl ?_
 refine WO.v (R.len rfl Tryz.underlying40) rfl ?_
 refine WO.v (R.assign rfl) rfl ?_
 refine WO.nil ?_
 refine WX.next ?_
 refine WC.seq ?_
 refine WC.seq ?_
 refine WC.region ?_
 refine WO.v (R.move rfl) rfl ?_
 refine WO.v (R.move rfl) rfl ?_
 refine WO.v (R.eql rfl rfl) rfl ?_
 refine WO.nil ?_
 refine WX.next ?_
 refine WC.cond rfl (fun q=>absurd (of_decide_eq_true q) (by omega)) (fun _=>?_)
 refine WC.skip ?_
 refine WX.next ?_
 refine WC.seq ?_
 refine WC.seq ?_
 refine WC.region ?_
 refine WO.v (R.move rfl) rfl ?_
 refine WO.v (R.move rfl) rfl ?_
 refine WO.v (R.jY rfl rfl (by omega)) rfl ?_
 refine WO.v (R.move rfl) rfl ?_
 refine WO.v (R.Ey rfl Tryz.underlying40) rfl ?_
 refine WO.v (R.gtr rfl rfl) rfl ?_
 refine WO.nil ?_
 refine WX.next ?_
 refine WC.cond rfl (fun q=>absurd (of_decide_eq_true q) (by omega)) (fun _=>?_)
 refine WC.skip ?_
 refine WX.next ?_
 refine WC.seq ?_
 refine WC.region ?_
 refine WO.v (R.move rfl) rfl ?_
 refine WO.v (R.move rfl) rfl ?_
 refine WO.v (R.move rfl) rfl ?_
 refine WO.v (R.jY rfl rfl (by omega)) rfl ?_
 refine WO.v (R.kB rfl rfl Tryz.underlying40 cC (dN (i:=0) (by omega)) (by omega)) rfl ?_
 refine WO.v (R.assign rfl) rfl ?_
 refine WO.nil ?_
 refine WX.next ?_
 refine WC.seq ?_
 refine WC.seq ?_
 refine WC.region ?_
 refine WO.v (R.move rfl) rfl ?_
 refine WO.v (R.move rfl) rfl ?_
 refine WO.v (R.move rfl) rfl ?_
 refine WO.v (R.move rfl) rfl ?_
 refine WO.v (R.jY rfl rfl (by omega)) rfl ?_
 refine WO.v (R.ck rfl rfl Tryz.underlying40 cC (dN (by omega)) (by omega)) rfl ?_
 refine WO.v (R.Sd (tS:=40) (tR:=4) Tryz.func186 rfl rfl (by kernel_rfl) (by kernel_rfl) Tryz.underlying40 cC hne hvb hvb0 hrow rfl rfl) rfl ?_
 refine WO.v (R.not rfl) rfl ?_
 refine WO.nil ?_
 refine WX.next ?_
 refine WC.wG rfl ?_
 refine WC.seq ?_
 refine WC.ov gl [.ex [] (.slice (some ⟨g,0,none⟩) (n+1) c),.ex [] (.int .i64 ((i:Nat):Int)),.ex [] (.int .i64 ((1:Nat):Int)),.ex [1,2] (.int .i64 ((i+1:Nat):Int)),.ex [0,3] (.slice (some ⟨g,(i+1)*2,none⟩) (n+1 - (i+1)) (c - (i+1))),.ex [] (.slice (some ⟨g,0,none⟩) (n+1) c),.ex [] (.int .i64 ((i:Nat):Int)),.ex [5,6] (.slice (some ⟨g,i*2,none⟩) (n+1 - i) (c - i))] 8 (by kernel_rfl) ⟨fun _ _ _ h _=>h,fun _ _ _ h _=>h,fun _ _ _ h _=>h,fun _ _ _ h _=>h,fun _ _ _ h _=>h,fun _ _ _ h _=>h,fun _ _ _ h _=>h,fun _ _ _ h _=>h,trivial⟩ ⟨?_,?_,?_,?_,?_,?_,?_,?_,trivial⟩ ?_
 ·rintro vs wd kd ⟨-⟩
  refine WO.br (fr':=[(0,.slice (some ⟨g,0,none⟩) (n+1) c)]) ⟨⟨_,rfl,rfl⟩,trivial⟩ ?_
  refine WO.v (R.move rfl) rfl ?_
  refine WO.nil ?_
  exact WX.aL rfl rfl (Kp.refl _)
 ·rintro vs wd kd ⟨-⟩
  refine WO.br (fr':=[(1,.int .i64 ((i:Nat):Int))]) ⟨⟨_,rfl,rfl⟩,trivial⟩ ?_
  refine WO.v (R.move rfl) rfl ?_
  refine WO.nil ?_
  exact WX.aL rfl rfl (Kp.refl _)
 ·rintro vs wd kd ⟨-⟩
  refine WO.br (fr':=[(7,.int .i64 ((1:Nat):Int))]) ⟨⟨_,rfl,rfl⟩,trivial⟩ ?_
  refine WO.v (R.move rfl) rfl ?_
  refine WO.nil ?_
  exact WX.aL rfl rfl (Kp.refl _)
 ·rintro vs wd kd ⟨e1,e2,-⟩
  refine WO.br (fr':=[(70,.int .i64 ((i:Nat):Int)),(71,.int .i64 ((1:Nat):Int))]) ⟨⟨_,rfl,e1⟩,⟨_,rfl,e2⟩,trivial⟩ ?_
  refine WO.v (R.jY rfl rfl (by omega)) rfl ?_
  refine WO.nil ?_
  exact WX.aL rfl rfl (Kp.refl _)
 ·rintro vs wd kd ⟨e0,e3,-⟩
  refine WO.br (fr':=[(69,.slice (some ⟨g,0,none⟩) (n+1) c),(72,.int .i64 ((i+1:Nat):Int))]) ⟨⟨_,rfl,e0⟩,⟨_,rfl,e3⟩,trivial⟩ ?_
  refine WO.v (R.ck rfl rfl Tryz.underlying40 cC (dN (by omega)) (by omega)) rfl ?_
  refine WO.nil ?_
  exact WX.aL rfl rfl (Kp.refl _)
 ·rintro vs wd kd ⟨-⟩
  refine WO.br (fr':=[(0,.slice (some ⟨g,0,none⟩) (n+1) c)]) ⟨⟨_,rfl,rfl⟩,trivial⟩ ?_
  refine WO.v (R.move rfl) rfl ?_
  refine WO.nil ?_
  exact WX.aL rfl rfl (Kp.refl _)
 ·rintro vs wd kd ⟨-⟩
  refine WO.br (fr':=[(1,.int .i64 ((i:Nat):Int))]) ⟨⟨_,rfl,rfl⟩,trivial⟩ ?_
  refine WO.v (R.move rfl) rfl ?_
  refine WO.nil ?_
  exact WX.aL rfl rfl (Kp.refl _)
 ·rintro vs wd kd ⟨e5,e6,-⟩
  refine WO.br (fr':=[(74,.slice (some ⟨g,0,none⟩) (n+1) c),(75,.int .i64 ((i:Nat):Int))]) ⟨⟨_,rfl,e5⟩,⟨_,rfl,e6⟩,trivial⟩ ?_
  refine WO.v (R.ck rfl rfl Tryz.underlying40 cC (dN (by omega)) (by omega)) rfl ?_
  refine WO.nil ?_
  exact WX.aL rfl rfl (Kp.refl _)
 rintro vsx w1 k1 ⟨-,-,-,-,e4,-,-,e7,-⟩
 replace k1:Kp [] w w1:=k1
 refine WO.br (fr':=[(73,.slice (some ⟨g,(i+1)*2,none⟩) (n+1 - (i+1)) (c - (i+1))),(76,.slice (some ⟨g,i*2,none⟩) (n+1 - i) (c - i)),(0,.slice (some ⟨g,0,none⟩) (n+1) c),(1,.int .i64 ((i:Nat):Int)),(2,.slice (some ad) 1 vc)]) ⟨⟨_,rfl,e4⟩,⟨_,rfl,e7⟩,⟨_,rfl,rfl⟩,⟨_,rfl,rfl⟩,⟨_,rfl,rfl⟩,trivial⟩ ?_
 have hg1:w1.heap[g]? = some (.cells (List.toArray cur) 63 (0,0)):=by rw [k1.block g (aZ hrow) (by simp)]; exact hrow
 refine WO.v (R.lq rfl rfl Tryz.underlying40 cC hg1 hn2 (hd.kp k1 (aZ hrow) (by simp)) (by omega) h1d) rfl ?_
 refine WO.nil ?_
 refine WX.next ?_
 have hg2:(w1.setRow g (cur.take ((i+1)*2)++ds++cur.drop ((i+1)*2+ds.length)).toArray).heap[g]? = some (.cells (List.toArray (cur.take ((i+1)*2)++ds++cur.drop ((i+1)*2+ds.length))) 63 (0,0)):=setRow_heap w1 g _ _ 63 _ hg1
 have hv2:CellsAt (w1.setRow g (cur.take ((i+1)*2)++ds++cur.drop ((i+1)*2+ds.length)).toArray) ad vs:=(hv.kp k1 (aZ hvb) (by simp)).kp (Kp.setRow w1 g _) (Nat.lt_of_lt_of_le (aZ hvb) k1.size) (by simpa using fun h=>hne h.symm)
 refine WC.seq ?_
 refine WC.region ?_
 refine WO.v (R.move rfl) rfl ?_
 refine WO.v (R.move rfl) rfl ?_
 refine WO.v (R.ck rfl rfl Tryz.underlying40 cC (dN (by omega)) (by omega)) rfl ?_
 refine WO.v (R.move rfl) rfl ?_
 refine WO.v (R.lq rfl rfl Tryz.underlying40 cC hg2 hn1 hv2 (by simp only [List.length_append,List.length_take,List.length_drop]; omega) h1v) rfl ?_
 refine WO.nil ?_
 refine WX.next ?_
 refine WC.seq ?_
 refine WC.region ?_
 refine WO.v (R.move rfl) rfl ?_
 refine WO.v (R.assign rfl) rfl ?_
 refine WO.nil ?_
 refine WX.next ?_
 refine WC.ret ?_
 refine WX.iG ?_
 refine WX.tY rfl rfl ?_
 exact ⟨rfl,w1,k1,rfl⟩
theorem uf {G:Gl} {ρ:List RE} {H:AH} {w:World} (hs:G.shp=ai tyT) (hR:Rep G ρ H w) {l m:List (den (.nm .opn))} (hH:getO H 0 = .row 63 (.nm .opn) l) (hl:l.length<1048576) {i:Nat} (hi:i<=l.length) {v0:Value} (h0:Rd (cx G ρ w) ρ (.own 0) v0)
  {ad:Addr} {k:Nat} {cys:List Value} {bAV:AV} (hm:m.length=1) (hb:Rd (cx G ρ w) ρ bAV (.slice (some ad) 1 k)) (hbv:(bAV.vw H).fV (.nm .opn)=some m) (hv:CellsAt w ad cys) (hvl:cys.length=2) (h1v:∀ u ∈ cys,u.oneCell' = true) (hp:Pds (cx G ρ w) (m.flatMap (cellsOf (.nm .opn))) cys)
  (hne:∀ g c n z,ρ[0]? = some (.row g c n z)->ad.block≠g) {curA:Array Value} {tA:TypeId} {fA:Nat × Nat} (hvb:w.heap[ad.block]? = some (.cells curA tA fA)) (hvb0:curA.size≠0) :
  gI Tryz.prog 176 [v0,.int .i64 (i:Int),.slice (some ad) 1 k].toArray w fun v w'=>∃ ρ',Stp (eC 0) ρ w ρ' w' /\ Rep G ρ' ((fp (AV.kill 0) H).set 0 (.row 63 (.nm .opn) (l.take i++m++l.drop i))) w' /\ Rd (cx G ρ' w') ρ' (.own 0) v:=by
 have hT:bk Tryz.prog G.shp tyT:=hs ▸ cF
 obtain ⟨hshp,hlen⟩:=dp hR hH
 have hl64:l.length<=9223372036854775807:=by omega
 have hin:((l.length:Nat):Int)<=9223372036854775807:=by omega
 by_cases hie:i=l.length
 ·subst hie
  have hc:∃ A c,v0 = .slice A l.length c:=by
   rcases h0 with ⟨g,cap,len,z,h1,rfl⟩ | ⟨h1,a,rfl⟩
   ·rcases bu hR hH with ⟨h2,_⟩ | ⟨g',cap',cells,sp,h2,_⟩
    ·rw [h1] at h2; cases h2
    ·rw [h1] at h2; cases h2; exact ⟨_,_,rfl⟩
   ·rcases bu hR hH with ⟨_,h2⟩ | ⟨g',cap',cells,sp,h2,_⟩
    ·subst h2; exact ⟨_,_,rfl⟩
    ·rw [h1] at h2; cases h2
  obtain ⟨A,c,rfl⟩:=hc
  refine uy fun F x y ty hx hy=>?_
  have happ:gr tyT (eC 0) ([]:AFr) H 40 (.own 0) bAV=some ⟨one (.own 0),[],(fp (AV.kill 0) H).set 0 (.row 63 (.nm .opn) (l++m)),[(l.length+m.length)*(Sh.nm NT.opn).bytes<=140737488355328],[]⟩:=by
   unfold gr
   rw [show bp tyT 40=some ⟨.sl 63 (some (.nm .opn)),1,[.em true]⟩ from by kernel_rfl]
   simp only [hbv,hH]
   rfl
  obtain ⟨v,w',h1,ρ',h2,h3,_,h5,_⟩:=gB (P:=Tryz.prog) (n:=95) (F:=[]) (ty:=ty) (fr:=[]) (x:=.const (.slice A l.length c)) (y:=.const (.slice (some ad) 1 k)) hT hR .nil happ (by
   intro p hp
   rw [List.mem_singleton] at hp; subst hp
   show (l.length+m.length)*16<=_
   omega) h0 hb rfl rfl
  refine ⟨v,w',R.wi h1 hx hy,ρ',h2,?_,h5⟩
  rw [List.take_length,List.drop_length,List.append_nil]
  exact h3
 ·have hlt:i<l.length:=by omega
  rcases bu hR hH with ⟨_,h2⟩ | ⟨g,cap,cells,sp,hρ,hg,hpd,hsz,hcap,hmax⟩
  ·subst h2; simp at hlt
  obtain ⟨hnb,hil,hiH⟩:=kr hR hH
  have hv0:v0 = .slice (some ⟨g,0,none⟩) l.length cap:=by
   rcases h0 with ⟨g',cap',len,z,h1,rfl⟩ | ⟨h1,a,rfl⟩
   ·rw [hρ] at h1; cases h1; rfl
   ·rw [hρ] at h1; cases h1
  subst hv0
  have hz:(Sh.nm NT.opn).size=2:=rfl
  have hby:(Sh.nm NT.opn).bytes=16:=rfl
  have hcl:cells.length=l.length*2:=by rw [<- hpd.length,bN,hz]
  rw [hz,List.length_append] at hsz
  have hone:∀ u ∈ cells.drop (i*2),u.oneCell' = true:=fun u hu=>hpd.Ae u (List.mem_of_mem_drop hu)
  have hd:CellsAt w ⟨g,i*2,none⟩ (cells.drop (i*2)):=by
   have:=(cf hg).shift (i*2)
   rwa [add_lit,Nat.zero_add] at this
  have hdl:(cells.drop (i*2)).length=(l.length - i)*2:=by rw [List.length_drop,hcl]; omega
  have hgl:=aZ hg
  have hzl:(l.take i++m++l.drop i).length=l.length+1:=by
   rw [List.length_append,List.length_append,List.length_take,List.length_drop,hm]; omega
  have hnew:∀ {c:Cx},(cx G ρ w).le c->Pds c ((l.take i++m++l.drop i).flatMap (cellsOf (.nm .opn))) (cells.take (i*2)++cys++cells.drop (i*2)):=fun {c} hle=>by
   rw [List.flatMap_append,List.flatMap_append]
   exact (((bI hpd i).append hp).append (bS hpd i)).carry hle
  have hnl:(cells.take (i*2)++cys++cells.drop (i*2)).length=(l.length+1)*2:=by
   rw [List.length_append,List.length_append,List.length_take,List.length_drop,hcl,hvl]; omega
  have hbig:(l.take i++m++l.drop i).length*(Sh.nm NT.opn).bytes<=140737488355328:=by rw [hzl,hby]; omega
  -- what is shown of any way
  have fin:∀ (S:List Nat) (g2 cap2:Nat) (sp2:List Value) (w':World),Kp S w w' -> (∀ b ∈ S,b=g)->(g2=g\/w.heap.size<=g2)->w'.heap[g2]? = some (.cells (List.toArray (cells.take (i*2)++cys++cells.drop (i*2)++sp2)) 63 (0,0))->(l.length+1)*2+sp2.length=cap2*2->l.length+1<=cap2->cap2<=maxLen ->
    ∃ ρ',Stp (eC 0) ρ w ρ' w' /\ Rep G ρ' ((fp (AV.kill 0) H).set 0 (.row 63 (.nm .opn) (l.take i++m++l.drop i))) w' /\ Rd (cx G ρ' w') ρ' (.own 0) (.slice (some ⟨g2,0,none⟩) (l.length+1) cap2):=by
   intro S g2 cap2 sp2 w' hk hS hg2 hh hlen2 hle2 hmax2
   obtain ⟨k1,k2,_⟩:=jT (ro:=eC 0) (s':=.nm .opn) (e':=63) (zs:=l.take i++m++l.drop i) hR hH ⟨rfl,rfl⟩ hk (fun b hb=>⟨_,hρ,by rw [hS b hb]; rfl⟩) (r':=.row g2 cap2 (l.take i++m++l.drop i).length (Sh.nm NT.opn).size) (fun b hb=>by
    cases hb
    rcases hg2 with rfl | hg2
    ·exact .inl ⟨_,hρ,rfl⟩
    ·exact .inr ⟨hg2,aZ hh⟩) (fun hle=>⟨hshp,hbig,.inr ⟨g2,cap2,_,sp2,rfl,hh,hnew hle,by rw [List.length_append,hnl,hz]; exact hlen2,by rw [hzl]; exact hle2,hmax2⟩⟩)
   exact ⟨_,k1,k2,.inl ⟨g2,cap2,_,_,List.getElem?_set_self hil,by rw [hzl]⟩⟩
  have eo:(i+1)*2=i*2+2:=by omega
  by_cases hroom:l.length+1<=cap
  ·refine (ph hlt hroom hmax hg (by rw [List.length_append]; omega) hv hvb hvb0 (hne _ _ _ _ hρ) hvl hd hdl h1v hone).mono fun v w' ⟨e1,w1,k1,e2⟩=>?_
   subst e1; subst e2
   rw [eo,Ij (by omega) hvl]
   have hk:Kp [g] w ((w1.setRow g ((cells++sp).take (i*2+2)++cells.drop (i*2)++(cells++sp).drop (i*2+2+(cells.drop (i*2)).length)).toArray).setRow g (cells.take (i*2)++cys++cells.drop (i*2)++sp.drop 2).toArray):=((k1.sub (by simp)).step (Kp.setRow w1 g _) (by simp)).step (Kp.setRow _ g _) (by simp)
   have hg1:w1.heap[g]? = some (.cells (List.toArray (cells++sp)) 63 (0,0)):=by rw [k1.block g hgl (by simp)]; exact hg
   exact fin [g] g cap (sp.drop 2) _ hk (by simp) (.inl rfl) (setRow_heap _ g _ _ 63 _ (setRow_heap w1 g _ _ 63 _ hg1)) (by rw [List.length_drop]; omega) hroom hmax
  ·obtain ⟨ti,hi0,hz0,hz1,hz2⟩:=info_parts wI
   have eik:i+(l.length+1 - i)=l.length+1:=by omega
   have hge:=grownCap_ge w (l.length+1) cap 63
   have hgm:=grownCap_le_maxLen w (l.length+1) cap 63 (by simp [maxLen]; omega)
   have hold:(Builtin.firstCells ti.size i (.slice (some ⟨g,0*2,none⟩) i cap)).run Tryz.prog w.drew = .ok (cells.take (i*2)).toArray w.drew:=by
    have h:=run_loadCells_list (P:=Tryz.prog) w.drew ⟨g,0*2,none⟩ (cells.take (i*2)) (by rw [Nat.zero_mul]; exact (cf hg).take _)
    rw [List.length_take,Nat.min_eq_left (by omega)] at h
    rw [hz1]; exact h
   have happ:∀ (F:Fr) (x y:Operand) (ty:TypeId),ev F x=some (.slice (some ⟨g,0*2,none⟩) i cap)->ev F y=some (.int .i64 ((l.length+1 - i:Nat):Int))->aO Tryz.prog 95 F w (.call { callee:=.builtin .append,args:=#[x,y],argTypes:=#[40,3] }) ty (.slice (some ⟨w.heap.size,0,none⟩) (l.length+1) (grownCap w (l.length+1) cap 63)) (w.drew.alloc (.cells (List.toArray (cells.take (i*2)++((Builtin.zeroCells (Value.agg #[.int .i64 0,.int .i64 0]).cells (l.length+1 - i)).toList++(Builtin.zeroCells (Value.agg #[.int .i64 0,.int .i64 0]).cells (grownCap w (l.length+1) cap 63 - (l.length+1))).toList))) 63)):=fun F x y ty hx hy=>by
    have h:=R.OB (P:=Tryz.prog) (n:=95) (ty:=ty) hx hy Tryz.underlying40 Tryz.underlying3 hi0 hz0 hold (by omega) (by rw [hz1]; decide) (by omega) (by omega) (by rw [hz2]; omega) (by rw [hz2,eik]; exact growslice_fits (by omega) (by omega))
    rw [eik] at h
    have e:∀ (a:List Value) (b c:Array Value),a.toArray++b++c=(a++(b.toList++c.toList)).toArray:=fun a b c=>by apply Array.ext'; simp
    rw [e] at h
    exact h
   have hcurl:(cells.take (i*2)++((Builtin.zeroCells (Value.agg #[.int .i64 0,.int .i64 0]).cells (l.length+1 - i)).toList++(Builtin.zeroCells (Value.agg #[.int .i64 0,.int .i64 0]).cells (grownCap w (l.length+1) cap 63 - (l.length+1))).toList)).length=grownCap w (l.length+1) cap 63*2:=by
    rw [List.length_append,List.length_append,List.length_take,na,na]
    show min _ _+((l.length+1 - i)*2+(grownCap w (l.length+1) cap 63 - (l.length+1))*2)=_
    omega
   have htk:(cells.take (i*2)++((Builtin.zeroCells (Value.agg #[.int .i64 0,.int .i64 0]).cells (l.length+1 - i)).toList++(Builtin.zeroCells (Value.agg #[.int .i64 0,.int .i64 0]).cells (grownCap w (l.length+1) cap 63 - (l.length+1))).toList)).take (i*2)=cells.take (i*2):=List.take_left' (by rw [List.length_take]; omega)
   generalize grownCap w (l.length+1) cap 63=GC at *
   generalize cells.take (i*2)++((Builtin.zeroCells (Value.agg #[.int .i64 0,.int .i64 0]).cells (l.length+1 - i)).toList++(Builtin.zeroCells (Value.agg #[.int .i64 0,.int .i64 0]).cells (GC - (l.length+1))).toList)=cur at *
   have hK1:Kp [] w (w.drew.alloc (.cells (List.toArray cur) 63)):=((Kp.refl w).drew).step (Kp.alloc w.drew _) (by simp)
   have hrow:(w.drew.alloc (.cells (List.toArray cur) 63)).heap[w.heap.size]? = some (.cells (List.toArray cur) 63 (0,0)):=heap_alloc_new w.drew _
   generalize w.drew.alloc (.cells (List.toArray cur) 63)=W1 at *
   refine (tC hlt hcap (by omega) hmax hge hgm happ hrow (by omega) (hv.kp hK1 (aZ hvb) (by simp)) hvl (hd.kp hK1 hgl (by simp)) (by omega) (Nat.lt_of_lt_of_le hgl hK1.size) hdl h1v hone).mono fun v w' ⟨e1,w1,k1,e2⟩=>?_
   subst e1; subst e2
   rw [eo,Ix (cells:=cells) (by omega) hvl htk]
   have hs1:∀ b ∈ [w.heap.size],b ∈ ([]:List Nat)\/w.heap.size<=b:=fun b hb=>.inr (by rw [List.mem_singleton] at hb; omega)
   have hk:Kp [] w (w1.setRow w.heap.size (cells.take (i*2)++cys++cells.drop (i*2)++cur.drop (i*2+2+(cells.drop (i*2)).length)).toArray):=((hK1.step (Kp.setRow W1 w.heap.size _) hs1).step k1 (by simp)).step (Kp.setRow w1 w.heap.size _) hs1
   have hg1:=(k1.block w.heap.size (by simpa using aZ hrow) (by simp)).trans (setRow_heap W1 w.heap.size _ (cur.take (i*2)++cys++cur.drop (i*2+cys.length)).toArray 63 _ hrow)
   exact fin [] w.heap.size GC _ _ hk (by simp) (.inr (Nat.le_refl _)) (setRow_heap w1 w.heap.size _ _ 63 _ hg1) (by rw [List.length_drop]; omega) hge hgm
theorem qH (i:Int) (l m:List (den (.nm .opn))) (h:0<=i/\i<=(l.length:Int)) (hl:l.length<1048576) (hm:m.length=1):Sat Tryz.prog (ai tyT) 176 [.c (.own 0),.c (.int i),.c (.fz (.nm .opn) m)] [.row 63 (.nm .opn) l] ⟨[0<=i/\i<=(l.length:Int),l.length<1048576,m.length=1],[.c (.own 0)],some [.row 63 (.nm .opn) (l.take i.toNat++m++l.drop i.toNat)],false⟩:=by
 refine ⟨⟨_,Tryz.func176,by decide,rfl⟩,fun G ρ w vs hs hR hvs=>?_⟩
 obtain ⟨i,rfl⟩:=Int.eq_ofNat_of_zero_le h.1
 cases hvs with | cons h0 hvs=>
 cases hvs with | cons h1 hvs=>
 cases hvs with | cons h2 hvs=>
 cases hvs
 have h1:Pd (cx G ρ w) (.int (i:Int)) _:=h1
 cases h1
 have h0:Rd (cx G ρ w) ρ (.own 0) _:=h0
 have h2:Rd (cx G ρ w) ρ (.fz (.nm .opn) m) _:=h2
 have hH:getO [AO.row 63 (.nm .opn) l] 0 = .row 63 (.nm .opn) l:=rfl
 have hbv:(AV.vw [AO.row 63 (.nm .opn) l] (.fz (.nm .opn) m)).fV (.nm .opn)=some m:=by simp [AV.vw,AV.fV,getO]
 obtain ⟨A,k,cys,rfl,s1,s2,s3,s4⟩:=nc hR hbv h2
 rw [hm] at h2 s1 s3
 rw [hm]
 obtain ⟨ad,rfl,s5⟩:∃ ad,A=some ad/\CellsAt w ad cys:=s3.resolve_left (by decide)
 have hz:(Sh.nm NT.opn).size=2:=rfl
 rw [hz] at s1
 obtain ⟨u,hu⟩:∃ u,cys[0]? = some u:=⟨_,List.getElem?_eq_getElem (by omega)⟩
 obtain ⟨cur,t,f,hc,hc0⟩:=oS (s5 0 u hu)
 have hne:∀ g c n z,ρ[0]? = some (.row g c n z)->ad.block≠g:=fun g c n z hg e=>by
  have h2:Pd (cx G ρ w) (.fz (.nm .opn) m) (.slice (some ad) 1 k):=h2
  have h3:=LX h2 (by rw [hm]; decide)
  exact h3.1.2.1 ⟨0,_,hg,by rw [e]; rfl⟩
 rw [fK] at hc
 refine (uf hs hR hH hl (by omega) h0 hm h2 hbv s5 s1 s2 s4 hne hc hc0).mono fun v w' ⟨ρ',k1,k2,k3⟩=>?_
 exact ⟨[v],rfl,ρ',k2,k1.ext,k1.bx,.cons k3 .nil,fun hb=>by cases hb⟩
theorem Az:(Builtin.zeroCells (Value.agg #[.int .i64 0,.int .i64 0]).cells 1).toList=[.int .i64 0,.int .i64 0]:=by kernel_rfl
set_option maxRecDepth 100000 in
set_option maxHeartbeats 1000000 in
theorem BG {w:World} {g n i c:Nat} {cur ds:List Value} {ti:TypeInfo} (hi:i<n) (hnc:n<=c) (hcm:c<=maxLen) (hg:w.heap[g]? = some (.cells cur.toArray 63 (0,0))) (hcur:n*2<=cur.length) (hdl:ds.length=(n - (i+1))*2) (hd:CellsAt w (if c=i+1 then ⟨g,0,none⟩ else (⟨g,0,none⟩:Addr).add ((i+1)*2)) ds) (h1d:∀ u ∈ ds,u.oneCell' = true)
  (hi0:Tryz.prog.info? 63=some ti) (hz0:ti.zero=some (.agg #[.int .i64 0,.int .i64 0])) (hz1:ti.size=2) :
  gI Tryz.prog 179 [.slice (some ⟨g,0,none⟩) n c,.int .i64 (i:Int),.int .i64 ((i+1:Nat):Int)].toArray w fun v w'=>v = .slice (some ⟨g,0,none⟩) (i+(n - (i+1))) c/\∃ w1,Kp [] w w1/\w' = (w1.setRow g (cur.take (i*ti.size)++ds++cur.drop (i*ti.size+ds.length)).toArray).setRow g ((cur.take (i*ti.size)++ds++cur.drop (i*ti.size+ds.length)).take ((i+(n - (i+1)))*2)++(Builtin.zeroCells (Value.agg #[.int .i64 0,.int .i64 0]).cells 1).toList++(cur.take (i*ti.size)++ds++cur.drop (i*ti.size+ds.length)).drop ((i+(n - (i+1)))*2+(Builtin.zeroCells (Value.agg #[.int .i64 0,.int .i64 0]).cells 1).toList.length)).toArray:=by
 have hcm:c<=9223372036854775807:=hcm
 refine gI.enter Tryz.func179 rfl rfl rfl rfl ?_
 refine WC.seq ?_
 refine WC.region ?_
 refine WO.v (R.assign rfl) rfl ?_
 refine WO.nil ?_
 refine WX.next ?_
 refine WC.seq ?_
 refine WC.region ?_
 refine WO.v (R.move rfl) rfl ?_
 refine WO.v (R.move rfl) rfl ?_
 refine WO.v (R.move rfl) rfl ?_
 refine WO.v (R.move rfl) rfl ?_
 refine WO.v (R.len rfl Tryz.underlying40) rfl ?_
 refine WO.v (R.slice3 rfl rfl rfl rfl Tryz.underlying40 cC (by omega) (by omega) (by omega)) rfl ?_
 refine WO.nil ?_
 refine WX.next ?_
 refine WC.seq ?_
 refine WC.seq ?_
 refine WC.region ?_
 refine WO.v (R.move rfl) rfl ?_
 refine WO.v (R.move rfl) rfl ?_
 refine WO.v (R.eql rfl rfl) rfl ?_
 refine WO.nil ?_
 refine WX.next ?_
 refine WC.cond rfl (fun q=>absurd (of_decide_eq_true q) (by omega)) (fun _=>?_)
 refine WC.skip ?_
 refine WX.next ?_
 refine WC.seq ?_
 refine WC.region ?_
 refine WO.v (R.move rfl) rfl ?_
 refine WO.v (R.len rfl Tryz.underlying40) rfl ?_
 refine WO.v (R.assign rfl) rfl ?_
 refine WO.nil ?_
 refine WX.next ?_
 refine WC.seq ?_
 refine WC.ov gl [.ex [] (.slice (some ⟨g,0,none⟩) n c),.ex [] (.int .i64 ((i:Nat):Int)),.ex [0,1] (.slice (some ⟨g,0*2,none⟩) (i - 0) (c - 0)),.ex [] (.slice (some ⟨g,0,none⟩) n c),.ex [] (.int .i64 ((i+1:Nat):Int)),.ex [3,4] (.slice (some (if c=i+1 then ⟨g,0,none⟩ else (⟨g,0,none⟩:Addr).add ((i+1)*2))) (n - (i+1)) (c - (i+1)))] 6 (by kernel_rfl) ⟨fun _ _ _ h _=>h,fun _ _ _ h _=>h,fun _ _ _ h _=>h,fun _ _ _ h _=>h,fun _ _ _ h _=>h,fun _ _ _ h _=>h,trivial⟩ ⟨?_,?_,?_,?_,?_,?_,trivial⟩ ?_
 ·rintro vs wd kd ⟨-⟩
  refine WO.br (fr':=[(0,.slice (some ⟨g,0,none⟩) n c)]) ⟨⟨_,rfl,rfl⟩,trivial⟩ ?_
  refine WO.v (R.move rfl) rfl ?_
  refine WO.nil ?_
  exact WX.aL rfl rfl (Kp.refl _)
 ·rintro vs wd kd ⟨-⟩
  refine WO.br (fr':=[(1,.int .i64 ((i:Nat):Int))]) ⟨⟨_,rfl,rfl⟩,trivial⟩ ?_
  refine WO.v (R.move rfl) rfl ?_
  refine WO.nil ?_
  exact WX.aL rfl rfl (Kp.refl _)
 ·rintro vs wd kd ⟨e0,e1,-⟩
  refine WO.br (fr':=[(20,.slice (some ⟨g,0,none⟩) n c),(21,.int .i64 ((i:Nat):Int))]) ⟨⟨_,rfl,e0⟩,⟨_,rfl,e1⟩,trivial⟩ ?_
  refine WO.v (R.kB rfl rfl Tryz.underlying40 cC (dN (i:=0) (by omega)) (by omega)) rfl ?_
  refine WO.nil ?_
  exact WX.aL rfl rfl (Kp.refl _)
 ·rintro vs wd kd ⟨-⟩
  refine WO.br (fr':=[(0,.slice (some ⟨g,0,none⟩) n c)]) ⟨⟨_,rfl,rfl⟩,trivial⟩ ?_
  refine WO.v (R.move rfl) rfl ?_
  refine WO.nil ?_
  exact WX.aL rfl rfl (Kp.refl _)
 ·rintro vs wd kd ⟨-⟩
  refine WO.br (fr':=[(2,.int .i64 ((i+1:Nat):Int))]) ⟨⟨_,rfl,rfl⟩,trivial⟩ ?_
  refine WO.v (R.move rfl) rfl ?_
  refine WO.nil ?_
  exact WX.aL rfl rfl (Kp.refl _)
 ·rintro vs wd kd ⟨e3,e4,-⟩
  refine WO.br (fr':=[(23,.slice (some ⟨g,0,none⟩) n c),(24,.int .i64 ((i+1:Nat):Int))]) ⟨⟨_,rfl,e3⟩,⟨_,rfl,e4⟩,trivial⟩ ?_
  refine WO.v (R.ck rfl rfl Tryz.underlying40 cC Mh (by omega)) rfl ?_
  refine WO.nil ?_
  exact WX.aL rfl rfl (Kp.refl _)
 rintro vsx w1 k1 ⟨-,-,e2,-,-,e5,-⟩
 replace k1:Kp [] w w1:=k1
 refine WO.br (fr':=[(22,.slice (some ⟨g,0*2,none⟩) (i - 0) (c - 0)),(25,.slice (some (if c=i+1 then ⟨g,0,none⟩ else (⟨g,0,none⟩:Addr).add ((i+1)*2))) (n - (i+1)) (c - (i+1))),(7,.int .i64 ((n:Nat):Int))]) ⟨⟨_,rfl,e2⟩,⟨_,rfl,e5⟩,⟨_,rfl,rfl⟩,trivial⟩ ?_
 have hg1:w1.heap[g]? = some (.cells (List.toArray cur) 63 (0,0)):=by rw [k1.block g (aZ hg) (by simp)]; exact hg
 have hd1:CellsAt w1 (if c=i+1 then ⟨g,0,none⟩ else (⟨g,0,none⟩:Addr).add ((i+1)*2)) ds:=hd.keep (k1.block _ (by split <;> exact aZ hg) (by simp))
 refine WO.v (R.Gc (sl:=i) (sc:=c) rfl rfl Tryz.underlying40 hi0 hg1 (by rw [hz1]; exact hdl) hd1 h1d (by omega) (by rw [hz1]; omega)) rfl ?_
 refine WO.v (R.assign rfl) rfl ?_
 refine WO.nil ?_
 refine WX.next ?_
 have hg2:=setRow_heap w1 g _ (cur.take (i*ti.size)++ds++cur.drop (i*ti.size+ds.length)).toArray 63 _ hg1
 refine WC.seq ?_
 refine WC.region ?_
 refine WO.v (R.move rfl) rfl ?_
 refine WO.v (R.move rfl) rfl ?_
 refine WO.v (R.len rfl Tryz.underlying40) rfl ?_
 refine WO.v (R.move rfl) rfl ?_
 refine WO.v (R.wk rfl rfl rfl Tryz.underlying40 cC (dN (by omega)) (by omega) (by omega)) rfl ?_
 refine WO.v0 (R.Tq rfl (by omega) Tryz.underlying40 hi0 hz0 (by rw [Az]; simp [Value.oneCell']) hg2 (by rw [na,hz1]; simp only [List.length_append,List.length_take,List.length_drop]; show _+1*2<=_; omega)) ?_
 refine WO.nil ?_
 refine WX.next ?_
 refine WC.seq ?_
 refine WC.region ?_
 refine WO.v (R.move rfl) rfl ?_
 refine WO.v (R.assign rfl) rfl ?_
 refine WO.nil ?_
 refine WX.next ?_
 refine WC.ret ?_
 refine WX.tY rfl rfl ?_
 exact ⟨rfl,w1,k1,rfl⟩
theorem sa (i j:Int) (l:List (den (.nm .opn))) (h:0<=i/\i<(l.length:Int)/\j=i+1):Sat Tryz.prog (ai tyT) 179 [.c (.own 0),.c (.int i),.c (.int j)] [.row 63 (.nm .opn) l] ⟨[0<=i/\i<(l.length:Int)/\j=i+1],[.c (.own 0)],some [.row 63 (.nm .opn) (l.take i.toNat++l.drop j.toNat)],false⟩:=by
 refine ⟨⟨_,Tryz.func179,by decide,rfl⟩,fun G ρ w vs hs hR hvs=>?_⟩
 obtain ⟨hi0,hi1,rfl⟩:=h
 obtain ⟨i,rfl⟩:=Int.eq_ofNat_of_zero_le hi0
 have hlt:i<l.length:=by omega
 cases hvs with | cons h0 hvs=>
 cases hvs with | cons h1 hvs=>
 cases hvs with | cons h2 hvs=>
 cases hvs
 have h1:Pd (cx G ρ w) (.int (i:Int)) _:=h1
 have h2:Pd (cx G ρ w) (.int ((i:Int)+1)) _:=h2
 cases h1
 cases h2
 have h0:Rd (cx G ρ w) ρ (.own 0) _:=h0
 have hH:getO [AO.row 63 (.nm .opn) l] 0 = .row 63 (.nm .opn) l:=rfl
 obtain ⟨hshp,hlen⟩:=dp hR hH
 rcases bu hR hH with ⟨_,h2⟩ | ⟨g,cap,cells,sp,hρ,hg,hpd,hsz,hcap,hmax⟩
 ·subst h2; simp at hlt
 obtain ⟨hnb,hil,hiH⟩:=kr hR hH
 have hz:(Sh.nm NT.opn).size=2:=rfl
 have hby:(Sh.nm NT.opn).bytes=16:=rfl
 have hcl:cells.length=l.length*2:=by rw [<- hpd.length,bN,hz]
 rw [hz,List.length_append] at hsz
 rw [hby] at hlen
 obtain ⟨ti,hi0,hz0,hz1,hz2⟩:=info_parts wI
 have hone:∀ u ∈ cells.drop ((i+1)*2),u.oneCell' = true:=fun u hu=>hpd.Ae u (List.mem_of_mem_drop hu)
 have hd:CellsAt w (if cap=i+1 then ⟨g,0,none⟩ else (⟨g,0,none⟩:Addr).add ((i+1)*2)) (cells.drop ((i+1)*2)):=by
  split
  ·rw [List.drop_of_length_le (by omega)]; exact CellsAt.nil
  ·exact (cf hg).shift _
 have hv0:∀ v,Rd (cx G ρ w) ρ (.own 0) v->v = .slice (some ⟨g,0,none⟩) l.length cap:=fun v h0=>by
  rcases h0 with ⟨g',cap',len,z,h1,rfl⟩ | ⟨h1,a,rfl⟩
  ·rw [hρ] at h1; cases h1; rfl
  ·rw [hρ] at h1; cases h1
 obtain rfl:=hv0 _ h0
 have e0:((i:Int)+1)=((i+1:Nat):Int):=by omega
 rw [e0]
 refine (BG hlt hcap hmax hg (by rw [List.length_append]; omega) (by rw [List.length_drop,hcl]; omega) hd hone hi0 hz0 hz1).mono fun v w' ⟨e1,w1,k1,e2⟩=>?_
 subst e1
 have hq:i+(l.length - (i+1))=l.length - 1:=by omega
 rw [hq,hz1,Az] at e2
 rw [hq]
 have hzl:(l.take i++l.drop (i+1)).length=l.length - 1:=by rw [List.length_append,List.length_take,List.length_drop]; omega
 have hnl:(cells.take (i*2)++cells.drop ((i+1)*2)).length=(l.length - 1)*2:=by rw [List.length_append,List.length_take,List.length_drop]; omega
 have htk:((cells++sp).take (i*2)++cells.drop ((i+1)*2)++(cells++sp).drop (i*2+(cells.drop ((i+1)*2)).length)).take ((l.length - 1)*2)=cells.take (i*2)++cells.drop ((i+1)*2):=by
  rw [List.take_append_of_le_length (l₁:=cells) (by omega)]
  exact List.take_left' hnl
 have hr1l:((cells++sp).take (i*2)++cells.drop ((i+1)*2)++(cells++sp).drop (i*2+(cells.drop ((i+1)*2)).length)).length=cap*2:=by
  simp only [List.length_append,List.length_drop,List.length_take]
  omega
 generalize (cells++sp).take (i*2)++cells.drop ((i+1)*2)++(cells++sp).drop (i*2+(cells.drop ((i+1)*2)).length)=r1 at e2 htk hr1l
 rw [htk,List.append_assoc] at e2
 generalize hsp2:([.int .i64 0,.int .i64 0]:List Value)++List.drop ((l.length - 1)*2+([.int .i64 0,.int .i64 0]:List Value).length) r1=sp2 at e2
 have hlen2:(l.length - 1)*2+sp2.length=cap*2:=by
  rw [<- hsp2]
  simp only [List.length_append,List.length_cons,List.length_nil,List.length_drop]
  omega
 have hg1:w1.heap[g]? = some (.cells (List.toArray (cells++sp)) 63 (0,0)):=by rw [k1.block g (aZ hg) (by simp)]; exact hg
 have hh:=setRow_heap _ g _ (cells.take (i*2)++cells.drop ((i+1)*2)++sp2).toArray 63 _ (setRow_heap w1 g _ r1.toArray 63 _ hg1)
 have hk:=((k1.sub (T:=[g]) (by simp)).step (Kp.setRow w1 g r1.toArray) (by simp)).step (Kp.setRow _ g (cells.take (i*2)++cells.drop ((i+1)*2)++sp2).toArray) (by simp)
 subst e2
 obtain ⟨k2,k3,_⟩:=jT (ro:=eC 0) (s':=.nm .opn) (e':=63) (zs:=l.take i++l.drop (i+1)) hR hH ⟨rfl,rfl⟩ hk (fun b hb=>⟨_,hρ,by rw [List.mem_singleton] at hb; subst hb; rfl⟩) (r':=.row g cap (l.take i++l.drop (i+1)).length (Sh.nm NT.opn).size) (fun b hb=>by
  cases hb; exact .inl ⟨_,hρ,rfl⟩) (fun hle=>⟨hshp,by rw [hzl,hby]; omega,.inr ⟨g,cap,_,sp2,rfl,hh,by
   rw [List.flatMap_append]; exact ((bI hpd i).append (bS hpd (i+1))).carry hle,by rw [List.length_append,hnl,hz]; exact hlen2,by omega,hmax⟩⟩)
 exact ⟨[_],rfl,_,k3,k2.ext,k2.bx,.cons (.inl ⟨g,cap,_,_,List.getElem?_set_self hil,by rw [hzl]⟩) .nil,fun hb=>by cases hb⟩
def oM {β:Type} (z:β) (k:Int):List (Int × β)->β
 | []=>z
 | p :: r=>if k=p.1 then p.2 else oM z k r
theorem ax {α:Type} {l:List α} {k:Nat} {x:α} (hx:l[k]? = some x):l.take (k+1)=l.take k++[x]:=by
 rw [List.take_add_one,hx]; rfl
theorem Ee {α:Type} [DecidableEq α] {l m:List α} (h:¬ ((l.length:Nat):Int)=((m.length:Nat):Int)):false=decide (l=m):=by
 symm; apply decide_eq_false; rintro rfl; exact h rfl
theorem sm {α:Type} [DecidableEq α] {l m:List α} {k:Nat} (hl:l.length=m.length) (h:l.take k=m.take k) (hk:l.length<=k):true=decide (l=m):=by
 symm; apply decide_eq_true
 rwa [List.take_of_length_le hk,List.take_of_length_le (by omega)] at h
def cE (n a b:Int):Bool:=decide (a<=n) && decide (n<=b)
def aE {α:Type} (key:α->Int) (most:Int):Int->List α->Bool
 | _,[]=>true
 | a,x :: r=>cE (key x) (a+1) most && aE key most (key x) r
def bz {α:Type} (key:α->Int) (a:Int) (l:List α):Int:=l.foldl (fun _ x=>key x) a
theorem gQ {α:Type} {key:α->Int} {most:Int} {x:α}:∀ (p:List α) (a:Int),aE key most a (p++[x])=(aE key most a p && cE (key x) (bz key a p+1) most)
 | [],a=>by simp [aE,bz]
 | y :: p,a=>by
  rw [List.cons_append,aE,aE,gQ p,Bool.and_assoc]; rfl
theorem iN {α:Type} {key:α->Int} {most:Int} (q:List α):∀ (p:List α) (a:Int),aE key most a (p++q)=true->aE key most a p=true
 | [],a,_=>rfl
 | y :: p,a,h=>by
  rw [List.cons_append,aE,Bool.and_eq_true] at h
  rw [aE,Bool.and_eq_true]
  exact ⟨h.1,iN q p _ h.2⟩
theorem ed {α:Type} {key:α->Int} {a:Int} {l:List α} {k:Nat} {x:α} (hx:l[k]? = some x):key x=bz key a (l.take (k+1)):=by
 rw [ax hx,bz,List.foldl_append]; rfl
theorem lx {α:Type} {key:α->Int} {most a:Int} {l:List α} {k:Nat} {x:α} (h:aE key most a (l.take k)=true) (hx:l[k]? = some x) (h1:bz key a (l.take k)<key x) (h2:key x<=most):aE key most a (l.take (k+1))=true:=by
 rw [ax hx,gQ,h,Bool.true_and,cE,Bool.and_eq_true,decide_eq_true_eq,decide_eq_true_eq]
 exact ⟨by omega,h2⟩
theorem lB {α:Type} {key:α->Int} {most a:Int} {l:List α} {k:Nat} {x:α} (hx:l[k]? = some x) (h:¬ (bz key a (l.take k)<key x/\key x<=most)):aE key most a l=false:=by
 cases hr:aE key most a l with
 | false=>rfl
 | true=>
  have h1:=iN (l.drop (k+1)) (l.take (k+1)) a (by rw [List.take_append_drop]; exact hr)
  rw [ax hx,gQ,Bool.and_eq_true,cE,Bool.and_eq_true,decide_eq_true_eq,decide_eq_true_eq] at h1
  exact absurd ⟨by omega,h1.2.2⟩ h
theorem lp {α:Type} {key:α->Int} {most a:Int} {l:List α} {k:Nat} (h:aE key most a (l.take k)=true) (hk:l.length<=k):aE key most a l=true:=by
 rwa [List.take_of_length_le hk] at h
def rowF (l:List Int):Bool:=(decide ((1:Int)<=((l.length:Nat):Int)) && decide (((l.length:Nat):Int)<=8)) && aE id 64 0 l
theorem kF {l:List Int} {k:Nat} {x:Int} (hx:l[k]? = some x) (h:¬ (bz id 0 (l.take k)<x/\x<=64)):false=rowF l:=by
 rw [rowF,lB (key:=id) hx h,Bool.and_false]
theorem jh {l:List Int} {k:Nat} (h:aE id 64 0 (l.take k)=true) (hk:l.length<=k) (hl:1<=l.length/\l.length<=8):true=rowF l:=by
 rw [rowF,lp h hk,Bool.and_true]; symm; rw [Bool.and_eq_true,decide_eq_true_eq,decide_eq_true_eq]; omega
theorem nG {l:List Int} (hl:¬ (1<=l.length/\l.length<=8)):false=rowF l:=by
 symm
 rw [rowF,Bool.and_eq_false_iff]; left
 rw [Bool.and_eq_false_iff,decide_eq_false_iff_not,decide_eq_false_iff_not]; omega
def dj (x:Sess):Bool:=(cE x.seq 0 1048576 && cE x.last.code 0 99) && cE x.last.n 0 1048576
def dr (x:Opn):Bool:=cE x.client 1 8
theorem mu {α:Type} {p:α->Bool} {l:List α} {k:Nat} {x:α} (h:(l.take k).all p=true) (hx:l[k]? = some x) (hp:p x=true):(l.take (k+1)).all p=true:=by
 rw [ax hx,List.all_append,h]; simp [hp]
theorem zb {α:Type} {p:α->Bool} {l:List α} {k:Nat} {x:α} (hx:l[k]? = some x) (hp:p x=false):l.all p=false:=by
 rw [List.all_eq_false]; exact ⟨x,List.mem_of_getElem? hx,by simp [hp]⟩
theorem Bw {α:Type} {p:α->Bool} {l:List α} {k:Nat} (h:(l.take k).all p=true) (hk:l.length<=k):l.all p=true:=by
 rwa [List.take_of_length_le hk] at h
def aX (n:Nat):Nat:=if h:n<128 then 1 else aX (n / 128)+1
termination_by n
decreasing_by omega
theorem nF {n:Nat} (h:¬ n<128):aX n=aX (n / 128)+1:=by rw [aX,dif_neg h]
theorem je {n:Nat} (h:n<128):aX n=1:=by rw [aX,dif_pos h]
theorem iC (n:Nat):1<=aX n:=by rw [aX]; split <;> omega
theorem sP:∀ (k n:Nat),n<128 ^ (k+1)->aX n<=k+1
 | 0,n,h=>by rw [je (by simpa using h)]; omega
 | k+1,n,h=>by
  by_cases hn:n<128
  ·rw [je hn]; omega
  ·rw [nF hn]
   have:=sP k (n / 128) (by rw [Nat.div_lt_iff_lt_mul (by omega),<- Nat.pow_succ]; exact h)
   omega
theorem mn {n:Nat} (h:n<18446744073709551616):aX n<=10:=sP 9 n (Nat.lt_of_lt_of_le h (by decide))
def ER (n i:Nat):UInt8:=UInt8.ofNat (n / 128 ^ i) ||| 128
def dW (n k:Nat):List UInt8:=(List.range k).map (ER n)++List.replicate (aX n - k) 0
def fj (n:Nat):List UInt8:=(dW n (aX n)).set (aX n - 1) (ER n (aX n - 1) &&& 127)
theorem kM {n k:Nat} (h:k<=aX n):(dW n k).length=aX n:=by simp [dW]; omega
theorem uG {n k:Nat} (h:k<aX n):(dW n k).set k (ER n k)=dW n (k+1):=by
 unfold dW
 rw [List.set_append_right _ _ (by simp),List.range_succ,List.map_append,List.append_assoc]
 congr 1
 obtain ⟨j,hj⟩:∃ j,aX n - k=j+1:=⟨aX n - k - 1,by omega⟩
 rw [hj,show aX n - (k+1)=j by omega]
 simp [List.replicate_succ]
theorem u_ (n:Nat):List.replicate (aX n) (0:UInt8)=dW n 0:=by simp [dW]
theorem uF {n:Nat} {x:UInt8} (h:(dW n (aX n))[aX n - 1]? = some x):x=ER n (aX n - 1):=by
 have hp:=iC n
 unfold dW at h
 rw [List.getElem?_append_left (by simp; omega)] at h
 simp only [List.getElem?_map,List.getElem?_range (show aX n - 1<aX n by omega),Option.map_some,Option.some.injEq] at h
 exact h.symm
theorem div_pow {n k:Nat}:n / 128 ^ k / 2 ^ 7=n / 128 ^ (k+1):=by show n / 128 ^ k / 128=_; rw [Nat.div_div_eq_div_mul,Nat.pow_succ]
theorem zy (n:Nat):(fj n).length=aX n:=by rw [fj,List.length_set,kM (Nat.le_refl _)]
theorem dG {n:Nat} (h:n<18446744073709551616):(fj n).length<=10:=by rw [zy]; exact mn h
def fb (l:List Int):List UInt8:=l.flatMap fun x=>fj x.toNat
theorem xw {l:List Int} {k:Nat} {x:Int} (hx:l[k]? = some x):fb (l.take k)++fj x.toNat=fb (l.take (k+1)):=by
 rw [ax hx]; simp [fb]
theorem Ay {l:List Int} (h:∀ x ∈ l,x<=64):(fb l).length<=10*l.length:=by
 induction l with
 | nil=>simp [fb]
 | cons a l ih=>
  have h1:=ih fun x hx=>h x (List.mem_cons_of_mem _ hx)
  have h2:=dG (n:=a.toNat) (by have:=h a (by simp); omega)
  simp only [fb,List.flatMap_cons,List.length_append,List.length_cons] at *
  omega
theorem pV {l:List Int} (h:rowF l=true):∀ x ∈ l,0<x/\x<=64:=by
 rw [rowF,Bool.and_eq_true] at h
 have:∀ (l:List Int) (a:Int),0<=a->aE id 64 a l=true->∀ x ∈ l,0<x/\x<=64:=by
  intro l
  induction l with
  | nil=>intro a _ _ x hx; cases hx
  | cons y l ih=>
   intro a ha hl x hx
   rw [aE,Bool.and_eq_true,cE,Bool.and_eq_true,decide_eq_true_eq,decide_eq_true_eq] at hl
   have h1:a+1<=y:=hl.1.1
   have h2:y<=64:=hl.1.2
   rcases List.mem_cons.1 hx with rfl | hx
   ·omega
   ·exact ih (id y) (by show 0<=y; omega) hl.2 x hx
 exact this l 0 aQ h.2
theorem xh {l:List Int} (h:rowF l=true):1<=l.length/\l.length<=8:=by
 rw [rowF,Bool.and_eq_true,Bool.and_eq_true,decide_eq_true_eq,decide_eq_true_eq] at h
 omega
def dy (l:List Int):List UInt8:=if rowF l then fb l else []
def eg (l:List Int):Int:=if rowF l then 0 else 1
theorem zV {l:List Int} {k:Nat} (hr:rowF l=true) (hk:l.length<=k):fb (l.take k)=dy l:=by rw [List.take_of_length_le hk,dy,if_pos hr]
theorem xS {l:List Int} (hr:rowF l=false):[]=dy l:=by rw [dy,hr]; rfl
theorem sA {l:List Int} (hr:rowF l=true):0=eg l:=by rw [eg,hr]; rfl
theorem nv {l:List Int} (hr:rowF l=false):1=eg l:=by rw [eg,hr]; rfl
def cQ (v t:Int) (x:Snap):Bool:=((decide (eg x.chunks=0) && cE x.set 1 8) && (!x.held || decide (2<=v))) && decide (((x.tag.b.length:Nat):Int)<=t)
def pH (v:Int):Int:=if v<3 then 0 else 16
def eW (s:State) (v:Int):Bool:=!(decide (16<((s.snaps.length:Nat):Int)) || !(aE Snap.id (s.next - 1) 0 s.snaps)) && s.snaps.all (cQ v (pH v))
def hP (s:State) (v:Int):Bool:=((cE s.version 1 3 && cE s.next 1 1048576) && cE s.keep 0 8) && cE s.quota 0 (if v<3 then 0 else 64)
def tj (s:State):Bool:=aE Sess.client 8 0 s.sess && s.sess.all dj
def qi (s:State):Bool:=aE Opn.set 8 0 s.opens && s.opens.all dr
def mayF (s:State) (v:Int):Int:=if !(cE v 1 3) then 1 else if (((!hP s v || !tj s) || !qi s) || !eW s v) then 6 else 0
def bD (k:Int):Int:=oM 0 k [((1:Int),(1:Int)),((2:Int),(1:Int)),((3:Int),(1:Int)),((4:Int),(1:Int)),((5:Int),(1:Int)),((6:Int),(1:Int)),((7:Int),(1:Int)),((8:Int),(1:Int)),((9:Int),(2:Int)),((10:Int),(2:Int)),((11:Int),(3:Int)),((12:Int),(3:Int))]
theorem FQ {k:Int} (h:¬ (1<=k/\k<=12)):bD k=0:=by
 unfold bD
 simp only [oM]
 repeat rw [if_neg (by omega)]
theorem Aj {n a b:Int} (h:cE n a b=true):a<=n/\n<=b:=by unfold cE at h; rw [Bool.and_eq_true,decide_eq_true_eq,decide_eq_true_eq] at h; exact h
theorem SU {n a b:Int} (h:cE n a b=false):¬ (a<=n/\n<=b):=fun h2=>by
 have:cE n a b=true:=by unfold cE; rw [Bool.and_eq_true,decide_eq_true_eq,decide_eq_true_eq]; exact h2
 rw [h] at this; cases this
def fU (x:Int) (l:List Int):Int:=match l.findIdx? (fun y=>decide (x=y)) with | some i=>(i:Int) | none=>-1
theorem zw {x y:Int} {l:List Int} {k:Nat} (h:∀ j y,j<k->l[j]? = some y->¬ x=y) (hy:l[k]? = some y) (hxy:x=y):(k:Int)=fU x l:=by
 have:l.findIdx? (fun y=>decide (x=y))=some k:=by
  obtain ⟨hk,rfl⟩:=List.getElem?_eq_some_iff.1 hy
  rw [List.findIdx?_eq_some_iff_getElem]
  exact ⟨hk,decide_eq_true hxy,fun j hj=>by simpa using h j _ hj (List.getElem?_eq_getElem aQ)⟩
 simp [fU,this]
theorem wh (x:Int) (l:List Int):decide (0<=fU x l)=l.contains x:=by
 unfold fU
 cases h:l.findIdx? (fun y=>decide (x=y)) with
 | none=>
  rw [List.findIdx?_eq_none_iff] at h
  have:l.contains x=false:=by
   rw [<- Bool.not_eq_true,List.contains_iff_mem]
   intro hm; have:=h x hm; simp at this
  rw [this]; rfl
 | some i=>
  rw [List.findIdx?_eq_some_iff_getElem] at h
  obtain ⟨hi,hp,_⟩:=h
  have:l.contains x=true:=by
   rw [List.contains_iff_mem,of_decide_eq_true hp]; exact List.getElem_mem hi
  rw [this]; simp
def lh (n most:Int) (named:Bool):Bool:=if named then (decide (1<=n) && decide (n<=most)) else decide (n=0)
def oX (k:Int):Int × Int:=oM (0,0) k [((6:Int),((0:Int),(8:Int))),((8:Int),((2:Int),(3:Int))),((12:Int),((0:Int),(64:Int)))]
def R_ (c:Command):Bool:=if c.kind=3 then rowF c.chunks else decide (((c.chunks.length:Nat):Int)=0)
def Sx (c:Command):Bool:=if c.kind=11 then decide (((c.text.b.length:Nat):Int)<=16) else decide (c.text=⟨[]⟩)
def lJ (c:Command):Bool:=((((((((decide ((oX c.kind).1<=c.n) && decide (c.n<=(oX c.kind).2)) && R_ c) && Sx c) && lh c.client 8 (!([(8:Int)].contains c.kind))) && lh c.seq 1048576 (!([(1:Int),8].contains c.kind))) && lh c.set 8 ([(2:Int),3,4].contains c.kind)) && lh c.id 1048576 ([(5:Int),7,9,10,11].contains c.kind)))
def b_ (c:Command) (v:Int):Int:=if !(cE v 1 3) || decide (bD c.kind=0) then 1 else if v<bD c.kind then 10 else if !lJ c then 1 else 0
theorem FJ {s:Str}:decide (((s.b.length:Nat):Int)=0)=decide (s=⟨[]⟩):=by
 cases s with | mk b=>
 cases b with
 | nil=>simp
 | cons a t=>rw [Bool.eq_iff_iff]; simp; omega
def oH (c:Command):Bool:=(((cE c.client 0 1048576 && cE c.seq 0 1048576) && cE c.set 0 1048576) && cE c.id 0 1048576) && cE c.n 0 1048576
def eE (c:Command) (v:Int):Bool:=(((cE c.kind 1 99 && (decide (bD c.kind=0) || decide (v<bD c.kind))) && oH c) && (decide (((c.chunks.length:Nat):Int)=0) || rowF c.chunks)) && (decide (((c.text.b.length:Nat):Int)=0) || (decide (3<=v) && decide (((c.text.b.length:Nat):Int)<=16)))
theorem DH {c:Command} {v:Int} (h:((c.kind<1\/99<c.kind)\/(¬ bD c.kind=0/\bD c.kind<=v))):false=eE c v:=by
 have:(cE c.kind 1 99 && (decide (bD c.kind=0) || decide (v<bD c.kind)))=false:=by
  rw [<- Bool.not_eq_true]; simp only [cE,Bool.and_eq_true,Bool.or_eq_true,decide_eq_true_eq]; omega
 unfold eE; rw [this]; rfl
theorem EM {c:Command} {v:Int} (h:(c.client<0\/1048576<c.client)\/(c.seq<0\/1048576<c.seq)\/(c.set<0\/1048576<c.set)\/(c.id<0\/1048576<c.id)\/(c.n<0\/1048576<c.n)):false=eE c v:=by
 have:oH c=false:=by
  rw [<- Bool.not_eq_true]; unfold oH; simp only [cE,Bool.and_eq_true,decide_eq_true_eq]; omega
 unfold eE; rw [this,Bool.and_false]; rfl
theorem ED {c:Command} {v:Int} (h:0<((c.chunks.length:Nat):Int)/\rowF c.chunks=false):false=eE c v:=by
 have:(decide (((c.chunks.length:Nat):Int)=0) || rowF c.chunks)=false:=by
  rw [h.2,Bool.or_false]; exact decide_eq_false (by omega)
 unfold eE; rw [this,Bool.and_false]; rfl
theorem vW {c:Command} {v:Int} (h1:¬ ((c.kind<1\/99<c.kind)\/(¬ bD c.kind=0/\bD c.kind<=v))) (h2:¬ ((c.client<0\/1048576<c.client)\/(c.seq<0\/1048576<c.seq)\/(c.set<0\/1048576<c.set)\/(c.id<0\/1048576<c.id)\/(c.n<0\/1048576<c.n)))
  (h3:(¬ (0<((c.chunks.length:Nat):Int)))\/rowF c.chunks=true):eE c v=(decide (((c.text.b.length:Nat):Int)=0) || (decide (3<=v) && decide (((c.text.b.length:Nat):Int)<=16))):=by
 have e1:(cE c.kind 1 99 && (decide (bD c.kind=0) || decide (v<bD c.kind)))=true:=by
  simp only [cE,Bool.and_eq_true,Bool.or_eq_true,decide_eq_true_eq]; omega
 have e2:oH c=true:=by unfold oH; simp only [cE,Bool.and_eq_true,decide_eq_true_eq]; omega
 have e3:(decide (((c.chunks.length:Nat):Int)=0) || rowF c.chunks)=true:=by
  rcases h3 with h3 | h3
  ·rw [decide_eq_true (show ((c.chunks.length:Nat):Int)=0 by omega)]; rfl
  ·rw [h3,Bool.or_true]
 unfold eE; rw [e1,e2,e3]; rfl
theorem Lh {c:Command} {v:Int} (h1:¬ ((c.kind<1\/99<c.kind)\/(¬ bD c.kind=0/\bD c.kind<=v))) (h2:¬ ((c.client<0\/1048576<c.client)\/(c.seq<0\/1048576<c.seq)\/(c.set<0\/1048576<c.set)\/(c.id<0\/1048576<c.id)\/(c.n<0\/1048576<c.n)))
  (h3:(¬ (0<((c.chunks.length:Nat):Int)))\/rowF c.chunks=true) (h4:v<3):decide (c.text=⟨[]⟩)=eE c v:=by
 rw [vW h1 h2 h3,FJ,decide_eq_false (show ¬ (3:Int)<=v by omega)]; simp
theorem Ly {c:Command} {v:Int} (h1:¬ ((c.kind<1\/99<c.kind)\/(¬ bD c.kind=0/\bD c.kind<=v))) (h2:¬ ((c.client<0\/1048576<c.client)\/(c.seq<0\/1048576<c.seq)\/(c.set<0\/1048576<c.set)\/(c.id<0\/1048576<c.id)\/(c.n<0\/1048576<c.n)))
  (h3:(¬ (0<((c.chunks.length:Nat):Int)))\/rowF c.chunks=true) (h4:¬ v<3):decide (((c.text.b.length:Nat):Int)<=16)=eE c v:=by
 rw [vW h1 h2 h3,Bool.eq_iff_iff]; simp only [Bool.or_eq_true,Bool.and_eq_true,decide_eq_true_eq]; omega
def bV (k:Int):Bool:=decide (1<=k) && decide (k<=3)
theorem sX {α:Type} {a b:List α} {k:Nat} {d:α} (h:a.take k=b.take k) (ha:k<a.length) (hb:k<b.length) (e:a.getD k d=b.getD k d):a.take (k+1)=b.take (k+1):=by
 have h1:a[k]? = some (a.getD k d):=by rw [List.getD_eq_getElem?_getD,List.getElem?_eq_getElem ha]; rfl
 have h2:b[k]? = some (b.getD k d):=by rw [List.getD_eq_getElem?_getD,List.getElem?_eq_getElem hb]; rfl
 rw [ax h1,ax h2,h,e]
theorem sR {s:Str} {n:Nat} (h:(s.b.length:Int)<=n):s=⟨s.b.take n⟩:=by
 cases s; rw [List.take_of_length_le (by simpa using h)]
theorem LW {l:List Int} {k:Nat} {x:Int} (hx:l[k]? = some x):x=bz id 0 (l.take (k+1)):=ed (key:=id) hx
theorem D_ {l:List Int} {k:Nat} {x:Int} (h:aE id 64 0 (l.take k)=true) (hx:l[k]? = some x) (h1:bz id 0 (l.take k)<x) (h2:x<=64):aE id 64 0 (l.take (k+1))=true:=lx (key:=id) h hx (by dsimp only [id]; omega) (by dsimp only [id]; omega)
def Oo (l:List Int):List (Nat × LI):=[(5,{ σ:=Nat,F:=fun k=>([(3,one (.int (bz id 0 (l.take k)))),(14,one (.fz .int (l))),(15,one (.int (l).length)),(16,one (.int k))],[]),J:=fun k=>k<=l.length/\aE id 64 0 (l.take k)=true/\1<=l.length/\l.length<=8,μ:=fun k=>(l).length - k })]
def HS (a:List Int) (b:List Int):List (Nat × LI):=[(4,{ σ:=Nat,F:=fun k=>([(0,one (.fz .int (a))),(1,one (.fz .int (b))),(5,one (.int k))],[]),J:=fun k=>k<=a.length/\a.length=b.length/\a.take k=b.take k,μ:=fun k=>a.length - k })]
theorem HH (k:Int) (r0:Bool):cw tyT lR [] Tryz.f39 [.c (.int (k))] [] [.c (.bool (.atom (r0)))]=(I64 k->(decide ((1:Int)<=k) && decide (k<=(3:Int)))=r0):=by kernel_rfl
theorem Eu (k:Int):Sat Tryz.prog (ai tyT) 39 [.c (.int (k))] [] ⟨[],[.c (.bool (.atom ((bV k))))],none,false⟩:=by
 refine aM dX [] Tryz.func39 (by decide) (by kernel_rfl) ?_
 rw [HH]
 grind [bV]
theorem NZ (l:List Int) (r0:Bool):cw tyT lR (Oo l) Tryz.f80 [.c (.fz .int (l))] [] [.c (.bool (.atom (r0)))]=((fun (q3:Int)=>(fun (q2:Int)=>(fun (q1:Nat)=>(fun (q0:Prop)=>l.length*(8:Nat)<=(140737488355328:Nat)->(q3<(1:Int)\/(8:Int)<q3->false=r0)/\((1:Int)<=q3/\q3<=(8:Int)->∃ (s0:Nat),(q2=bz id q2 (List.take s0 l)/\l=l/\q3=(↑q1:Int)/\q2=(↑s0:Int))/\(s0<=q1/\aE id (64:Int) q2 (List.take s0 l)=true/\q0)/\∀ (s:Nat),s<=q1/\aE id (64:Int) q2 (List.take s l)=true/\q0->((↑s:Int)<(↑q1:Int)->q2<=(↑s:Int)/\(↑s:Int)<q3/\∀ (x:Int),l[s]? = some x->I64 x->(x<=bz id q2 (List.take s l)\/(64:Int)<x->false=r0)/\(bz id q2 (List.take s l)<x/\x<=(64:Int)->I64 ((↑s:Int)+(1:Int))/\∃ (s':Nat),(x=bz id q2 (List.take s' l)/\l=l/\(↑q1:Int)=(↑q1:Int)/\(↑s:Int)+(1:Int)=(↑s':Int))/\(s' <= q1/\aE id (64:Int) q2 (List.take s' l)=true/\q0)/\q1 - s' < q1 - s))/\((↑q1:Int)<=(↑s:Int)->true=r0))) ((1:Nat)<=q1/\q1<=(8:Nat))) l.length) (0:Int)) (↑l.length:Int)):=by kernel_rfl
theorem Oa (l:List Int):Sat Tryz.prog (ai tyT) 80 [.c (.fz .int (l))] [] ⟨[],[.c (.bool (.atom ((rowF l))))],none,false⟩:=by
 refine aM dX (Oo l) Tryz.func80 (by decide) (by kernel_rfl) ?_
 rw [NZ]
 (repeat' (first | refine And.intro ?_ ?_ | intro))
 all_goals try (grind [nG,kF,jh,LW,D_,aE,bz])
 all_goals (refine ⟨0,?_⟩; (repeat' (first | refine And.intro ?_ ?_ | intro)))
 all_goals try (grind [nG,kF,jh,LW,D_,aE,bz])
 all_goals (refine ⟨‹Nat› + 1,?_⟩; (repeat' (first | refine And.intro ?_ ?_ | intro)))
 all_goals grind [nG,kF,jh,LW,D_,aE,bz]
theorem Kz (a:List Int) (b:List Int) (r0:Bool):cw tyT lR (HS a b) Tryz.f31 [.c (.fz .int (a)),.c (.fz .int (b))] [] [.c (.bool (.atom (r0)))]=((fun (q1:Nat)=>(fun (q0:Int)=>a.length*(8:Nat)<=(140737488355328:Nat)->b.length*(8:Nat)<=(140737488355328:Nat)->(¬q0=(↑b.length:Int)->false=r0)/\(q0=(↑b.length:Int)->∃ (s0:Nat),(a=a/\b=b/\(0:Int)=(↑s0:Int))/\(s0<=q1/\q1=b.length/\List.take s0 a=List.take s0 b)/\∀ (s:Nat),(fun (q2:Prop)=>s<=q1/\q1=b.length/\List.take s a=List.take s b->((↑s:Int)<q0->(0:Int)<=(↑s:Int)/\(↑s:Int)<q0/\(0:Int)<=(↑s:Int)/\(↑s:Int)<(↑b.length:Int)/\(I64 (a.getD s (dflt Sh.int))->I64 (b.getD s (dflt Sh.int))->(¬q2->false=r0)/\(q2->I64 ((↑s:Int)+(1:Int))/\∃ (s':Nat),(a=a/\b=b/\(↑s:Int)+(1:Int)=(↑s':Int))/\(s' <= q1/\q1=b.length/\List.take s' a=List.take s' b)/\q1 - s' < q1 - s)))/\(q0<=(↑s:Int)->true=r0)) (a.getD s (dflt Sh.int)=b.getD s (dflt Sh.int)))) (↑a.length:Int)) a.length):=by kernel_rfl
theorem JF (a:List Int) (b:List Int):Sat Tryz.prog (ai tyT) 31 [.c (.fz .int (a)),.c (.fz .int (b))] [] ⟨[],[.c (.bool (.atom ((decide (a=b)))))],none,false⟩:=by
 refine aM dX (HS a b) Tryz.func31 (by decide) (by kernel_rfl) ?_
 rw [Kz]
 (repeat' (first | refine And.intro ?_ ?_ | intro))
 all_goals try (grind [ax])
 all_goals (refine ⟨0,?_⟩; (repeat' (first | refine And.intro ?_ ?_ | intro)))
 all_goals try (grind [ax])
 all_goals (refine ⟨‹Nat› + 1,?_⟩; (repeat' (first | refine And.intro ?_ ?_ | intro)))
 all_goals first | exact sX (by grind) aQ aQ aq | grind
theorem Jm (x:Int) (r0:Int):cw tyT lR [] Tryz.f29 [.c (.int (x))] [] [.c (.int (r0))]=((fun (q0:Option (den Sh.int))=>I64 x->((fun (j:Int)=>if j=(12:Int) then some (3:Int) else (fun (j:Int)=>if j=(11:Int) then some (3:Int) else (fun (j:Int)=>if j=(10:Int) then some (2:Int) else (fun (j:Int)=>if j=(9:Int) then some (2:Int) else (fun (j:Int)=>if j=(8:Int) then q0 else (fun (j:Int)=>if j=(7:Int) then q0 else (fun (j:Int)=>if j=(6:Int) then q0 else (fun (j:Int)=>if j=(5:Int) then q0 else (fun (j:Int)=>if j=(4:Int) then q0 else (fun (j:Int)=>if j=(3:Int) then q0 else (fun (j:Int)=>if j=(2:Int) then q0 else (fun (j:Int)=>if j=(1:Int) then q0 else (fun (_:Int)=>none) j) j) j) j) j) j) j) j) j) j) j) j) x).getD (dflt Sh.int)=r0) (some (1:Int))):=by kernel_rfl
theorem Ju (x:Int):Sat Tryz.prog (ai tyT) 29 [.c (.int (x))] [] ⟨[],[.c (.int ((bD x)))],none,false⟩:=by
 refine aM dX [] Tryz.func29 (by decide) (by kernel_rfl) ?_
 rw [Jm]
 intro _
 simp only [bD,oM]
 by_cases h:1<=x/\x<=12
 ·have h2:x=1\/x=2\/x=3\/x=4\/x=5\/x=6\/x=7\/x=8\/x=9\/x=10\/x=11\/x=12:=by omega
  rcases h2 with rfl | rfl | rfl | rfl | rfl | rfl | rfl | rfl | rfl | rfl | rfl | rfl <;> rfl
 ·have h1:¬ x=1:=by omega
  have h2:¬ x=2:=by omega
  have h3:¬ x=3:=by omega
  have h4:¬ x=4:=by omega
  have h5:¬ x=5:=by omega
  have h6:¬ x=6:=by omega
  have h7:¬ x=7:=by omega
  have h8:¬ x=8:=by omega
  have h9:¬ x=9:=by omega
  have h10:¬ x=10:=by omega
  have h11:¬ x=11:=by omega
  have h12:¬ x=12:=by omega
  simp [h1,h2,h3,h4,h5,h6,h7,h8,h9,h10,h11,h12,dflt]
theorem Mt (s:Span) (k:Int) (r0:Bool):cw tyT lR [] Tryz.f79 [.agg (cellsOf (.nm .span) s),.c (.int (k))] [] [.c (.bool (.atom (r0)))]=(I64 s.lo->I64 s.hi->I64 k->(decide (s.lo<=k) && decide (k<=s.hi))=r0):=by kernel_rfl
theorem MV (s:Span) (k:Int):Sat Tryz.prog (ai tyT) 79 [.agg (cellsOf (.nm .span) s),.c (.int (k))] [] ⟨[],[.c (.bool (.atom ((decide (s.lo<=k) && decide (k<=s.hi)))))],none,false⟩:=by
 refine aM dX [] Tryz.func79 (by decide) (by kernel_rfl) ?_
 rw [Mt]
 grind
theorem DP (n:Int) (a:Int) (b:Int) (r0:Bool):cw tyT lR [] Tryz.f127 [.c (.int (n)),.c (.int (a)),.c (.int (b))] [] [.c (.bool (.atom (r0)))]=(I64 n->I64 a->I64 b->(decide (a<=n) && decide (n<=b))=r0):=by kernel_rfl
theorem zj (n:Int) (a:Int) (b:Int):Sat Tryz.prog (ai tyT) 127 [.c (.int (n)),.c (.int (a)),.c (.int (b))] [] ⟨[],[.c (.bool (.atom ((cE n a b))))],none,false⟩:=by
 refine aM dX [] Tryz.func127 (by decide) (by kernel_rfl) ?_
 rw [DP]
 grind [cE]
theorem ug (x:Sess) (r0:Int):cw tyT lR [] Tryz.f100 [.agg (cellsOf (.nm .sess) x)] [] [.c (.int (r0))]=(I64 x.client->I64 x.seq->I64 x.last.code->I64 x.last.n->x.client=r0):=by kernel_rfl
theorem tV (x:Sess):Sat Tryz.prog (ai tyT) 100 [.agg (cellsOf (.nm .sess) x)] [] ⟨[],[.c (.int ((x.client)))],none,false⟩:=by
 refine aM dX [] Tryz.func100 (by decide) (by kernel_rfl) ?_
 rw [ug]
 grind
theorem Fk (x:Opn) (r0:Int):cw tyT lR [] Tryz.f132 [.agg (cellsOf (.nm .opn) x)] [] [.c (.int (r0))]=(I64 x.set->I64 x.client->x.set=r0):=by kernel_rfl
theorem Fq (x:Opn):Sat Tryz.prog (ai tyT) 132 [.agg (cellsOf (.nm .opn) x)] [] ⟨[],[.c (.int ((x.set)))],none,false⟩:=by
 refine aM dX [] Tryz.func132 (by decide) (by kernel_rfl) ?_
 rw [Fk]
 grind
theorem Jb (x:Snap) (r0:Int):cw tyT lR [] Tryz.f170 [.agg (cellsOf (.nm .snap) x)] [] [.c (.int (r0))]=(I64 x.id->I64 x.set->x.chunks.length*(8:Nat)<=(140737488355328:Nat)->x.tag.b.length<=(140737488355328:Nat)->x.id=r0):=by kernel_rfl
theorem Me (x:Snap):Sat Tryz.prog (ai tyT) 170 [.agg (cellsOf (.nm .snap) x)] [] ⟨[],[.c (.int ((x.id)))],none,false⟩:=by
 refine aM dX [] Tryz.func170 (by decide) (by kernel_rfl) ?_
 rw [Jb]
 grind
theorem yo (e:Int) (r0:Reply):cw tyT lR [] Tryz.f62 [.c (.int (e))] [] [.agg (cellsOf (.nm .reply) r0)]=(I64 e->e=r0.code/\(0:Int)=r0.n):=by kernel_rfl
theorem xA (e:Int):Sat Tryz.prog (ai tyT) 62 [.c (.int (e))] [] ⟨[],[.agg (cellsOf (.nm .reply) (⟨e,0⟩))],none,false⟩:=by
 refine aM dX [] Tryz.func62 (by decide) (by kernel_rfl) ?_
 rw [yo]
 grind
def Ei:cd:=(bq 62 (bm (ah (kC cI) aK) aJ fun (e,_) (_)=>⟨[],[.agg (cellsOf (.nm .reply) (⟨e,0⟩))],none,false⟩) (bq 170 (bm (ah (kT (.nm .snap)) aK) aJ fun (x,_) (_)=>⟨[],[.c (.int ((x.id)))],none,false⟩) (bq 132 (bm (ah (kT (.nm .opn)) aK) aJ fun (x,_) (_)=>⟨[],[.c (.int ((x.set)))],none,false⟩) (bq 100 (bm (ah (kT (.nm .sess)) aK) aJ fun (x,_) (_)=>⟨[],[.c (.int ((x.client)))],none,false⟩) (bq 127 (bm (ah (kC cI) (ah (kC cI) (ah (kC cI) aK))) aJ fun (n,a,b,_) (_)=>⟨[],[.c (.bool (.atom ((cE n a b))))],none,false⟩) (bq 79 (bm (ah (kT (.nm .span)) (ah (kC cI) aK)) aJ fun (s,k,_) (_)=>⟨[],[.c (.bool (.atom ((decide (s.lo<=k) && decide (k<=s.hi)))))],none,false⟩) (bq 29 (bm (ah (kC cI) aK) aJ fun (x,_) (_)=>⟨[],[.c (.int ((bD x)))],none,false⟩) (bq 31 (bm (ah (kC (cL .int)) (ah (kC (cL .int)) aK)) aJ fun (a,b,_) (_)=>⟨[],[.c (.bool (.atom ((decide (a=b)))))],none,false⟩) (bq 80 (bm (ah (kC (cL .int)) aK) aJ fun (l,_) (_)=>⟨[],[.c (.bool (.atom ((rowF l))))],none,false⟩) (bq 39 (bm (ah (kC cI) aK) aJ fun (k,_) (_)=>⟨[],[.c (.bool (.atom ((bV k))))],none,false⟩) lR))))))))))
theorem lV:aN Tryz.prog (ai tyT) Ei:=(av (au (ab (al aw) ak) aj fun (e,_) (_) _=>xA e ) (av (au (ab bl ak) aj fun (x,_) (_) _=>Me x ) (av (au (ab bl ak) aj fun (x,_) (_) _=>Fq x ) (av (au (ab bl ak) aj fun (x,_) (_) _=>tV x ) (av (au (ab (al aw) (ab (al aw) (ab (al aw) ak))) aj fun (n,a,b,_) (_) _=>zj n a b ) (av (au (ab bl (ab (al aw) ak)) aj fun (s,k,_) (_) _=>MV s k ) (av (au (ab (al aw) ak) aj fun (x,_) (_) _=>Ju x ) (av (au (ab (al bb) (ab (al bb) ak)) aj fun (a,b,_) (_) _=>JF a b ) (av (au (ab (al bb) ak) aj fun (l,_) (_) _=>Oa l ) (av (au (ab (al aw) ak) aj fun (k,_) (_) _=>Eu k ) dX))))))))))
theorem eX {n:Int} (h1:-9223372036854775808<=n) (h2:n<=9223372036854775807):I64 n:=⟨h1,h2⟩
def ay {α:Type} (key:α->Int) (want:Int) (l:List α):Int:=match l.findIdx? (fun x=>decide (key x=want)) with
 | some i=>(i:Int)
 | none=>-1
section
variable {α:Type} {key:α->Int} {want:Int} {l:List α} {k:Nat} {x:α}
theorem mI:ay key want l = -1↔∀ x ∈ l,¬ key x=want:=by
 unfold ay
 cases h:l.findIdx? (fun x=>decide (key x=want)) with
 | none=>simpa using h
 | some i=>
  rw [List.findIdx?_eq_some_iff_getElem] at h
  obtain ⟨h1,h2,_⟩:=h
  simp only [decide_eq_true_eq] at h2
  constructor
  ·intro h; dsimp only at h; omega
  ·intro h; exact absurd h2 (h _ (List.getElem_mem h1))
theorem pM:ay key want (l.take 0) = -1:=rfl
theorem mK (h:ay key want (l.take k) = -1) (hx:l[k]? = some x) (hn:¬ key x=want):ay key want (l.take (k+1)) = -1:=by
 rw [mI] at h ⊢
 rw [ax hx]
 intro y hy
 rcases List.mem_append.1 hy with hy | hy
 ·exact h y hy
 ·rw [List.mem_singleton] at hy; subst hy; exact hn
theorem nU (h:ay key want (l.take k) = -1) (hk:l.length<=k):-1=ay key want l:=by
 rw [List.take_of_length_le hk] at h; exact h.symm
theorem kV (h:ay key want (l.take k) = -1) (hx:l[k]? = some x) (he:key x=want):(k:Int)=ay key want l:=by
 have:l.findIdx? (fun x=>decide (key x=want))=some k:=by
  rw [mI] at h
  obtain ⟨hk,rfl⟩:=List.getElem?_eq_some_iff.1 hx
  rw [List.findIdx?_eq_some_iff_getElem]
  refine ⟨hk,decide_eq_true he,fun j hj=>?_⟩
  have:=h l[j] (by rw [List.mem_take_iff_getElem]; exact ⟨j,by omega,rfl⟩)
  simpa using this
 rw [ay,this]
end
def ns (l:List Sess) (want:Int):List (Nat × LI):=[(2,{ σ:=Nat,F:=fun k=>([(1,one (.int (want))),(2,one (.fn 100 [] [])),(9,one (.fz (.nm .sess) (l))),(10,one (.int (l).length)),(11,one (.int k))],[]),J:=fun k=>k<=l.length/\ay Sess.client want (l.take k) = -1,μ:=fun k=>(l).length - k })]
def nC (l:List Opn) (want:Int):List (Nat × LI):=[(2,{ σ:=Nat,F:=fun k=>([(1,one (.int (want))),(2,one (.fn 132 [] [])),(9,one (.fz (.nm .opn) (l))),(10,one (.int (l).length)),(11,one (.int k))],[]),J:=fun k=>k<=l.length/\ay Opn.set want (l.take k) = -1,μ:=fun k=>(l).length - k })]
def nM (l:List Snap) (want:Int):List (Nat × LI):=[(2,{ σ:=Nat,F:=fun k=>([(1,one (.int (want))),(2,one (.fn 170 [] [])),(9,one (.fz (.nm .snap) (l))),(10,one (.int (l).length)),(11,one (.int k))],[]),J:=fun k=>k<=l.length/\ay Snap.id want (l.take k) = -1,μ:=fun k=>(l).length - k })]
theorem tg (l:List Sess) (want:Int) (r0:Int):cw tyT Ei (ns l want) Tryz.f99 [.c (.fz (.nm .sess) (l)),.c (.int (want)),.c (.fn 100 [] [])] [] [.c (.int (r0))]=((fun (q1:Int)=>(fun (q0:Nat)=>l.length*(32:Nat)<=(140737488355328:Nat)->I64 want->∃ (s0:Nat),(want=want/\l=l/\(↑l.length:Int)=(↑q0:Int)/\(0:Int)=(↑s0:Int))/\(s0<=q0/\ay Sess.client want (List.take s0 l) = -q1)/\∀ (s:Nat),s<=q0/\ay Sess.client want (List.take s l) = -q1->((↑s:Int)<(↑q0:Int)->(0:Int)<=(↑s:Int)/\(↑s:Int)<(↑l.length:Int)/\∀ (x:Sess),l[s]? = some x->I64 x.client->I64 x.seq->I64 x.last.code->I64 x.last.n->I64 x.client->(x.client=want->(↑s:Int)=r0)/\(¬x.client=want->I64 ((↑s:Int)+q1)/\∃ (s':Nat),(want=want/\l=l/\(↑q0:Int)=(↑q0:Int)/\(↑s:Int)+q1=(↑s':Int))/\(s' <= q0/\ay Sess.client want (List.take s' l) = -q1)/\q0 - s' < q0 - s))/\((↑q0:Int)<=(↑s:Int) -> -q1=r0)) l.length) (1:Int)):=by kernel_rfl
theorem rD (l:List Sess) (want:Int):Sat Tryz.prog (ai tyT) 99 [.c (.fz (.nm .sess) (l)),.c (.int (want)),.c (.fn 100 [] [])] [] ⟨[],[.c (.int ((ay Sess.client want l)))],none,false⟩:=by
 refine aM lV (ns l want) Tryz.func99 (by decide) (by kernel_rfl) ?_
 rw [tg]
 iterate 3 ((all_goals (repeat' (first | with_reducible apply bP | with_reducible refine bQ ?_ | intro))); (all_goals try (first | exact cn | exact (pM (key:=Sess.client)) | exact (kV (key:=Sess.client) aq aq aq) | exact (nU (key:=Sess.client) aq aQ) | exact (mK (key:=Sess.client) aq aq aq))); all_goals try first | refine ⟨‹Nat› + 1,?_⟩ | refine ⟨0,?_⟩)
theorem sM (l:List Opn) (want:Int) (r0:Int):cw tyT Ei (nC l want) Tryz.f185 [.c (.fz (.nm .opn) (l)),.c (.int (want)),.c (.fn 132 [] [])] [] [.c (.int (r0))]=((fun (q1:Int)=>(fun (q0:Nat)=>l.length*(16:Nat)<=(140737488355328:Nat)->I64 want->∃ (s0:Nat),(want=want/\l=l/\(↑l.length:Int)=(↑q0:Int)/\(0:Int)=(↑s0:Int))/\(s0<=q0/\ay Opn.set want (List.take s0 l) = -q1)/\∀ (s:Nat),s<=q0/\ay Opn.set want (List.take s l) = -q1->((↑s:Int)<(↑q0:Int)->(0:Int)<=(↑s:Int)/\(↑s:Int)<(↑l.length:Int)/\∀ (x:Opn),l[s]? = some x->I64 x.set->I64 x.client->I64 x.set->(x.set=want->(↑s:Int)=r0)/\(¬x.set=want->I64 ((↑s:Int)+q1)/\∃ (s':Nat),(want=want/\l=l/\(↑q0:Int)=(↑q0:Int)/\(↑s:Int)+q1=(↑s':Int))/\(s' <= q0/\ay Opn.set want (List.take s' l) = -q1)/\q0 - s' < q0 - s))/\((↑q0:Int)<=(↑s:Int) -> -q1=r0)) l.length) (1:Int)):=by kernel_rfl
theorem re (l:List Opn) (want:Int):Sat Tryz.prog (ai tyT) 185 [.c (.fz (.nm .opn) (l)),.c (.int (want)),.c (.fn 132 [] [])] [] ⟨[],[.c (.int ((ay Opn.set want l)))],none,false⟩:=by
 refine aM lV (nC l want) Tryz.func185 (by decide) (by kernel_rfl) ?_
 rw [sM]
 iterate 3 ((all_goals (repeat' (first | with_reducible apply bP | with_reducible refine bQ ?_ | intro))); (all_goals try (first | exact cn | exact (pM (key:=Opn.set)) | exact (kV (key:=Opn.set) aq aq aq) | exact (nU (key:=Opn.set) aq aQ) | exact (mK (key:=Opn.set) aq aq aq))); all_goals try first | refine ⟨‹Nat› + 1,?_⟩ | refine ⟨0,?_⟩)
theorem sf (l:List Snap) (want:Int) (r0:Int):cw tyT Ei (nM l want) Tryz.f174 [.c (.fz (.nm .snap) (l)),.c (.int (want)),.c (.fn 170 [] [])] [] [.c (.int (r0))]=((fun (q1:Int)=>(fun (q0:Nat)=>l.length*(64:Nat)<=(140737488355328:Nat)->I64 want->∃ (s0:Nat),(want=want/\l=l/\(↑l.length:Int)=(↑q0:Int)/\(0:Int)=(↑s0:Int))/\(s0<=q0/\ay Snap.id want (List.take s0 l) = -q1)/\∀ (s:Nat),s<=q0/\ay Snap.id want (List.take s l) = -q1->((↑s:Int)<(↑q0:Int)->(0:Int)<=(↑s:Int)/\(↑s:Int)<(↑l.length:Int)/\∀ (x:Snap),l[s]? = some x->I64 x.id->I64 x.set->x.chunks.length*(8:Nat)<=(140737488355328:Nat)->x.tag.b.length<=(140737488355328:Nat)->I64 x.id->(x.id=want->(↑s:Int)=r0)/\(¬x.id=want->I64 ((↑s:Int)+q1)/\∃ (s':Nat),(want=want/\l=l/\(↑q0:Int)=(↑q0:Int)/\(↑s:Int)+q1=(↑s':Int))/\(s' <= q0/\ay Snap.id want (List.take s' l) = -q1)/\q0 - s' < q0 - s))/\((↑q0:Int)<=(↑s:Int) -> -q1=r0)) l.length) (1:Int)):=by kernel_rfl
theorem rq (l:List Snap) (want:Int):Sat Tryz.prog (ai tyT) 174 [.c (.fz (.nm .snap) (l)),.c (.int (want)),.c (.fn 170 [] [])] [] ⟨[],[.c (.int ((ay Snap.id want l)))],none,false⟩:=by
 refine aM lV (nM l want) Tryz.func174 (by decide) (by kernel_rfl) ?_
 rw [sf]
 iterate 3 ((all_goals (repeat' (first | with_reducible apply bP | with_reducible refine bQ ?_ | intro))); (all_goals try (first | exact cn | exact (pM (key:=Snap.id)) | exact (kV (key:=Snap.id) aq aq aq) | exact (nU (key:=Snap.id) aq aQ) | exact (mK (key:=Snap.id) aq aq aq))); all_goals try first | refine ⟨‹Nat› + 1,?_⟩ | refine ⟨0,?_⟩)
def tk:cd:=(bq 174 (bm (ah (kC (cL (.nm .snap))) (ah (kC cI) (ah (kC (nX 170 [] [])) aK))) aJ fun (l,want,_,_) (_)=>⟨[],[.c (.int ((ay Snap.id want l)))],none,false⟩) (bq 185 (bm (ah (kC (cL (.nm .opn))) (ah (kC cI) (ah (kC (nX 132 [] [])) aK))) aJ fun (l,want,_,_) (_)=>⟨[],[.c (.int ((ay Opn.set want l)))],none,false⟩) (bq 99 (bm (ah (kC (cL (.nm .sess))) (ah (kC cI) (ah (kC (nX 100 [] [])) aK))) aJ fun (l,want,_,_) (_)=>⟨[],[.c (.int ((ay Sess.client want l)))],none,false⟩) Ei)))
theorem gv:aN Tryz.prog (ai tyT) tk:=(av (au (ab (al bb) (ab (al aw) (ab (al cJ) ak))) aj fun (l,want,_,_) (_) _=>rq l want ) (av (au (ab (al bb) (ab (al aw) (ab (al cJ) ak))) aj fun (l,want,_,_) (_) _=>re l want ) (av (au (ab (al bb) (ab (al aw) (ab (al cJ) ak))) aj fun (l,want,_,_) (_) _=>rD l want ) lV)))
theorem HE {n r m:Nat} (h:aX n+1=aX r+m) (hr:128<=r):aX n+1=aX (r / 128)+(m+1):=by
 have:=nF (n:=r) (by omega); omega
theorem GX {n r m:Nat} (h:aX n+1=aX r+m) (hn:n<18446744073709551616):m<=10:=by
 have:=mn hn; have:=iC r; omega
theorem Dp {n r m:Nat} (h:aX n+1=aX r+m) (hr:r<128):m=aX n:=by
 have:=je hr; omega
section
variable {α:Type} {key:α->Int} {most:Int} {l:List α} {k:Nat} {x:α}
theorem Bp (h:aE key most 0 (l.take k)=true) (hx:l[k]? = some x) (hb:cE (key x) (bz key 0 (l.take k)+1) most=true):aE key most 0 (l.take (k+1))=true:=
 lx h hx (by have:=Aj hb; omega) (Aj hb).2
theorem zP (hx:l[k]? = some x) (hb:cE (key x) (bz key 0 (l.take k)+1) most=false):false=aE key most 0 l:=
 (lB hx (by have:=SU hb; omega)).symm
theorem zW (h:aE key most 0 (l.take k)=true) (hk:l.length<=k):true=aE key most 0 l:=(lp h hk).symm
theorem BH (hx:l[k]? = some x) (h0:0<=bz key 0 (l.take k)) (hb:cE (key x) (bz key 0 (l.take k)+1) most=true):0<=bz key 0 (l.take (k+1)):=by
 have:=Aj hb; rw [<- ed hx]; omega
theorem Bb (hx:l[k]? = some x) (hb:cE (key x) (bz key 0 (l.take k)+1) most=true) (hm:most<=1048576):bz key 0 (l.take (k+1))<=1048576:=by
 have:=Aj hb; rw [<- ed hx]; omega
variable {p:α->Bool}
theorem CU (hx:l[k]? = some x) (hp:p x=false):false=l.all p:=(zb hx hp).symm
theorem Dd (h:(l.take k).all p=true) (hk:l.length<=k):true=l.all p:=(Bw h hk).symm
end
def IH (n:U64):List (Nat × LI):=[(2,{ σ:=Nat × Nat,F:=fun s=>([(0,one (.u64 s.1)),(3,one (.int s.2))],[]),J:=fun s=>s.1<18446744073709551616/\aX n.n+1=aX s.1+s.2,μ:=fun s=>s.1 })]
def lI (l:List Sess) (most:Int):List (Nat × LI):=[(3,{ σ:=Nat,F:=fun k=>([(1,one (.int (most))),(2,one (.fn 100 [] [])),(7,one (.int (bz Sess.client 0 (l.take k)))),(10,one (.fz (.nm .sess) (l))),(11,one (.int (l).length)),(12,one (.int k))],[]),J:=fun k=>k<=l.length/\aE Sess.client most 0 (l.take k)=true/\0<=bz Sess.client 0 (l.take k)/\bz Sess.client 0 (l.take k)<=1048576,μ:=fun k=>(l).length - k })]
def lE (l:List Opn) (most:Int):List (Nat × LI):=[(3,{ σ:=Nat,F:=fun k=>([(1,one (.int (most))),(2,one (.fn 132 [] [])),(7,one (.int (bz Opn.set 0 (l.take k)))),(10,one (.fz (.nm .opn) (l))),(11,one (.int (l).length)),(12,one (.int k))],[]),J:=fun k=>k<=l.length/\aE Opn.set most 0 (l.take k)=true/\0<=bz Opn.set 0 (l.take k)/\bz Opn.set 0 (l.take k)<=1048576,μ:=fun k=>(l).length - k })]
def lF (l:List Snap) (most:Int):List (Nat × LI):=[(3,{ σ:=Nat,F:=fun k=>([(1,one (.int (most))),(2,one (.fn 170 [] [])),(7,one (.int (bz Snap.id 0 (l.take k)))),(10,one (.fz (.nm .snap) (l))),(11,one (.int (l).length)),(12,one (.int k))],[]),J:=fun k=>k<=l.length/\aE Snap.id most 0 (l.take k)=true/\0<=bz Snap.id 0 (l.take k)/\bz Snap.id 0 (l.take k)<=1048576,μ:=fun k=>(l).length - k })]
theorem LG (n:U64) (r0:Int):cw tyT tk (IH n) Tryz.f166 [.c (.u64 (n).n)] [] [.c (.int (r0))]=((fun (q0:Nat)=>n.n<(18446744073709551616:Nat)->∃ (s0:Nat × Nat),(n.n=s0.fst/\(1:Int)=(↑s0.snd:Int))/\(s0.fst<(18446744073709551616:Nat)/\q0=aX s0.fst+s0.snd)/\∀ (s:Nat × Nat),s.fst<(18446744073709551616:Nat)/\q0=aX s.fst+s.snd->((↑(128:Nat):Int)<=(↑s.fst:Int)->(7:Nat)<(64:Nat)/\I64 ((↑s.snd:Int)+(1:Int))/\∃ (s':Nat × Nat),(s.fst / (2:Nat) ^ (7:Nat)=s'.fst/\(↑s.snd:Int)+(1:Int)=(↑s'.snd:Int))/\(s'.fst<(18446744073709551616:Nat)/\q0=aX s'.fst+s'.snd)/\s'.fst<s.fst)/\((↑s.fst:Int)<(↑(128:Nat):Int)->(↑s.snd:Int)=r0)) (aX n.n+(1:Nat))):=by kernel_rfl
theorem Kw (n:U64):Sat Tryz.prog (ai tyT) 166 [.c (.u64 (n).n)] [] ⟨[],[.c (.int (((aX n.n:Int))))],none,false⟩:=by
 refine aM gv (IH n) Tryz.func166 (by decide) (by kernel_rfl) ?_
 rw [LG]
 intro hn
 refine ⟨(n.n,1),⟨rfl,rfl⟩,⟨hn,rfl⟩,fun s hs=>⟨fun h=>?_,fun h=>?_⟩⟩
 ·have h2:=HE hs.2 (by omega)
  have h3:=GX hs.2 hn
  exact ⟨by omega,by constructor <;> omega,(s.1 / 128,s.2+1),⟨rfl,by simp⟩,⟨by show s.1 / 128<_; omega,h2⟩,by show s.1 / 128<s.1; omega⟩
 ·exact congrArg Int.ofNat (Dp hs.2 aQ)
theorem qI (l:List Sess) (most:Int) (r0:Bool):cw tyT tk (lI l most) Tryz.f128 [.c (.fz (.nm .sess) (l)),.c (.int (most)),.c (.fn 100 [] [])] [] [.c (.bool (.atom (r0)))]=((fun (q1:Nat)=>(fun (q0:Int)=>l.length*(32:Nat)<=(140737488355328:Nat)->I64 most->∃ (s0:Nat),(fun (q2:Int)=>(most=most/\q0=q2/\l=l/\(↑l.length:Int)=(↑q1:Int)/\q0=(↑s0:Int))/\(s0<=q1/\aE Sess.client most q0 (List.take s0 l)=true/\q0<=q2/\q2<=(1048576:Int))/\∀ (s:Nat),(fun (q3:Int)=>s<=q1/\aE Sess.client most q0 (List.take s l)=true/\q0<=q3/\q3<=(1048576:Int)->((↑s:Int)<(↑q1:Int)->q0<=(↑s:Int)/\(↑s:Int)<(↑l.length:Int)/\∀ (x:Sess),(fun (q4:Bool)=>l[s]? = some x->I64 x.client->I64 x.seq->I64 x.last.code->I64 x.last.n->I64 x.client->I64 (q3+(1:Int))/\(q4=false->false=r0)/\(q4=true->I64 x.client->I64 ((↑s:Int)+(1:Int))/\∃ (s':Nat),(fun (q5:Int)=>(most=most/\x.client=q5/\l=l/\(↑q1:Int)=(↑q1:Int)/\(↑s:Int)+(1:Int)=(↑s':Int))/\(s' <= q1/\aE Sess.client most q0 (List.take s' l)=true/\q0<=q5/\q5<=(1048576:Int))/\q1 - s' < q1 - s) (bz Sess.client q0 (List.take s' l)))) (cE x.client (q3+(1:Int)) most))/\((↑q1:Int)<=(↑s:Int)->true=r0)) (bz Sess.client q0 (List.take s l))) (bz Sess.client q0 (List.take s0 l))) (0:Int)) l.length):=by kernel_rfl
theorem qm (l:List Sess) (most:Int) (h0:most<=1048576):Sat Tryz.prog (ai tyT) 128 [.c (.fz (.nm .sess) (l)),.c (.int (most)),.c (.fn 100 [] [])] [] ⟨[most<=1048576],[.c (.bool (.atom ((aE Sess.client most 0 l))))],none,false⟩:=by
 refine aM gv (lI l most) Tryz.func128 (by decide) (by kernel_rfl) ?_
 rw [qI]
 iterate 3 ((all_goals (repeat' (first | with_reducible apply bP | with_reducible refine bQ ?_ | intro))); (all_goals try (first | exact cn | exact (Bp (key:=Sess.client) aq aq aq) | exact (zP (key:=Sess.client) aq aq) | exact (zW (key:=Sess.client) aq aQ) | exact (ed (key:=Sess.client) aq) | exact (BH (key:=Sess.client) aq aq aq) | exact (Bb (key:=Sess.client) aq aq aq) | exact rfl | exact Int.le_refl _ | exact (show (0:Int)<=1048576 by omega))); all_goals try first | refine ⟨‹Nat› + 1,?_⟩ | refine ⟨0,?_⟩)
theorem pf (l:List Opn) (most:Int) (r0:Bool):cw tyT tk (lE l most) Tryz.f131 [.c (.fz (.nm .opn) (l)),.c (.int (most)),.c (.fn 132 [] [])] [] [.c (.bool (.atom (r0)))]=((fun (q1:Nat)=>(fun (q0:Int)=>l.length*(16:Nat)<=(140737488355328:Nat)->I64 most->∃ (s0:Nat),(fun (q2:Int)=>(most=most/\q0=q2/\l=l/\(↑l.length:Int)=(↑q1:Int)/\q0=(↑s0:Int))/\(s0<=q1/\aE Opn.set most q0 (List.take s0 l)=true/\q0<=q2/\q2<=(1048576:Int))/\∀ (s:Nat),(fun (q3:Int)=>s<=q1/\aE Opn.set most q0 (List.take s l)=true/\q0<=q3/\q3<=(1048576:Int)->((↑s:Int)<(↑q1:Int)->q0<=(↑s:Int)/\(↑s:Int)<(↑l.length:Int)/\∀ (x:Opn),(fun (q4:Bool)=>l[s]? = some x->I64 x.set->I64 x.client->I64 x.set->I64 (q3+(1:Int))/\(q4=false->false=r0)/\(q4=true->I64 x.set->I64 ((↑s:Int)+(1:Int))/\∃ (s':Nat),(fun (q5:Int)=>(most=most/\x.set=q5/\l=l/\(↑q1:Int)=(↑q1:Int)/\(↑s:Int)+(1:Int)=(↑s':Int))/\(s' <= q1/\aE Opn.set most q0 (List.take s' l)=true/\q0<=q5/\q5<=(1048576:Int))/\q1 - s' < q1 - s) (bz Opn.set q0 (List.take s' l)))) (cE x.set (q3+(1:Int)) most))/\((↑q1:Int)<=(↑s:Int)->true=r0)) (bz Opn.set q0 (List.take s l))) (bz Opn.set q0 (List.take s0 l))) (0:Int)) l.length):=by kernel_rfl
theorem qx (l:List Opn) (most:Int) (h0:most<=1048576):Sat Tryz.prog (ai tyT) 131 [.c (.fz (.nm .opn) (l)),.c (.int (most)),.c (.fn 132 [] [])] [] ⟨[most<=1048576],[.c (.bool (.atom ((aE Opn.set most 0 l))))],none,false⟩:=by
 refine aM gv (lE l most) Tryz.func131 (by decide) (by kernel_rfl) ?_
 rw [pf]
 iterate 3 ((all_goals (repeat' (first | with_reducible apply bP | with_reducible refine bQ ?_ | intro))); (all_goals try (first | exact cn | exact (Bp (key:=Opn.set) aq aq aq) | exact (zP (key:=Opn.set) aq aq) | exact (zW (key:=Opn.set) aq aQ) | exact (ed (key:=Opn.set) aq) | exact (BH (key:=Opn.set) aq aq aq) | exact (Bb (key:=Opn.set) aq aq aq) | exact rfl | exact Int.le_refl _ | exact (show (0:Int)<=1048576 by omega))); all_goals try first | refine ⟨‹Nat› + 1,?_⟩ | refine ⟨0,?_⟩)
theorem pD (l:List Snap) (most:Int) (r0:Bool):cw tyT tk (lF l most) Tryz.f169 [.c (.fz (.nm .snap) (l)),.c (.int (most)),.c (.fn 170 [] [])] [] [.c (.bool (.atom (r0)))]=((fun (q1:Nat)=>(fun (q0:Int)=>l.length*(64:Nat)<=(140737488355328:Nat)->I64 most->∃ (s0:Nat),(fun (q2:Int)=>(most=most/\q0=q2/\l=l/\(↑l.length:Int)=(↑q1:Int)/\q0=(↑s0:Int))/\(s0<=q1/\aE Snap.id most q0 (List.take s0 l)=true/\q0<=q2/\q2<=(1048576:Int))/\∀ (s:Nat),(fun (q3:Int)=>s<=q1/\aE Snap.id most q0 (List.take s l)=true/\q0<=q3/\q3<=(1048576:Int)->((↑s:Int)<(↑q1:Int)->q0<=(↑s:Int)/\(↑s:Int)<(↑l.length:Int)/\∀ (x:Snap),(fun (q4:Int)=>l[s]? = some x->I64 x.id->I64 x.set->x.chunks.length*(8:Nat)<=(140737488355328:Nat)->x.tag.b.length<=(140737488355328:Nat)->I64 x.id->I64 q4/\(cE x.id q4 most=false->false=r0)/\(cE x.id q4 most=true->I64 x.id->I64 ((↑s:Int)+(1:Int))/\∃ (s':Nat),(fun (q5:Int)=>(most=most/\x.id=q5/\l=l/\(↑q1:Int)=(↑q1:Int)/\(↑s:Int)+(1:Int)=(↑s':Int))/\(s' <= q1/\aE Snap.id most q0 (List.take s' l)=true/\q0<=q5/\q5<=(1048576:Int))/\q1 - s' < q1 - s) (bz Snap.id q0 (List.take s' l)))) (q3+(1:Int)))/\((↑q1:Int)<=(↑s:Int)->true=r0)) (bz Snap.id q0 (List.take s l))) (bz Snap.id q0 (List.take s0 l))) (0:Int)) l.length):=by kernel_rfl
theorem pU (l:List Snap) (most:Int) (h0:most<=1048576):Sat Tryz.prog (ai tyT) 169 [.c (.fz (.nm .snap) (l)),.c (.int (most)),.c (.fn 170 [] [])] [] ⟨[most<=1048576],[.c (.bool (.atom ((aE Snap.id most 0 l))))],none,false⟩:=by
 refine aM gv (lF l most) Tryz.func169 (by decide) (by kernel_rfl) ?_
 rw [pD]
 iterate 3 ((all_goals (repeat' (first | with_reducible apply bP | with_reducible refine bQ ?_ | intro))); (all_goals try (first | exact cn | exact (Bp (key:=Snap.id) aq aq aq) | exact (zP (key:=Snap.id) aq aq) | exact (zW (key:=Snap.id) aq aQ) | exact (ed (key:=Snap.id) aq) | exact (BH (key:=Snap.id) aq aq aq) | exact (Bb (key:=Snap.id) aq aq aq) | exact rfl | exact Int.le_refl _ | exact (show (0:Int)<=1048576 by omega))); all_goals try first | refine ⟨‹Nat› + 1,?_⟩ | refine ⟨0,?_⟩)
theorem JZ (x:Sess) (r0:Bool):cw tyT tk [] Tryz.f130 [.agg (cellsOf (.nm .sess) x)] [] [.c (.bool (.atom (r0)))]=(I64 x.client->I64 x.seq->I64 x.last.code->I64 x.last.n->(cE x.seq (0:Int) (1048576:Int) && cE x.last.code (0:Int) (99:Int) && cE x.last.n (0:Int) (1048576:Int))=r0):=by kernel_rfl
theorem Js (x:Sess):Sat Tryz.prog (ai tyT) 130 [.agg (cellsOf (.nm .sess) x)] [] ⟨[],[.c (.bool (.atom ((dj x))))],none,false⟩:=by
 refine aM gv [] Tryz.func130 (by decide) (by kernel_rfl) ?_
 rw [JZ]
 grind [dj,cE]
theorem LL (x:Opn) (r0:Bool):cw tyT tk [] Tryz.f134 [.agg (cellsOf (.nm .opn) x)] [] [.c (.bool (.atom (r0)))]=(I64 x.set->I64 x.client->cE x.client (1:Int) (8:Int)=r0):=by kernel_rfl
theorem Lw (x:Opn):Sat Tryz.prog (ai tyT) 134 [.agg (cellsOf (.nm .opn) x)] [] ⟨[],[.c (.bool (.atom ((dr x))))],none,false⟩:=by
 refine aM gv [] Tryz.func134 (by decide) (by kernel_rfl) ?_
 rw [LL]
 grind [dr,cE]
def pB:cd:=(bq 134 (bm (ah (kT (.nm .opn)) aK) aJ fun (x,_) (_)=>⟨[],[.c (.bool (.atom ((dr x))))],none,false⟩) (bq 130 (bm (ah (kT (.nm .sess)) aK) aJ fun (x,_) (_)=>⟨[],[.c (.bool (.atom ((dj x))))],none,false⟩) (bq 169 (bm (ah (kC (cL (.nm .snap))) (ah (kC cI) (ah (kC (nX 170 [] [])) aK))) aJ fun (l,most,_,_) (_)=>⟨[most<=1048576],[.c (.bool (.atom ((aE Snap.id most 0 l))))],none,false⟩) (bq 131 (bm (ah (kC (cL (.nm .opn))) (ah (kC cI) (ah (kC (nX 132 [] [])) aK))) aJ fun (l,most,_,_) (_)=>⟨[most<=1048576],[.c (.bool (.atom ((aE Opn.set most 0 l))))],none,false⟩) (bq 128 (bm (ah (kC (cL (.nm .sess))) (ah (kC cI) (ah (kC (nX 100 [] [])) aK))) aJ fun (l,most,_,_) (_)=>⟨[most<=1048576],[.c (.bool (.atom ((aE Sess.client most 0 l))))],none,false⟩) (bq 166 (bm (ah (kC cU) aK) aJ fun (n,_) (_)=>⟨[],[.c (.int (((aX n.n:Int))))],none,false⟩) tk))))))
theorem ft:aN Tryz.prog (ai tyT) pB:=(av (au (ab bl ak) aj fun (x,_) (_) _=>Lw x ) (av (au (ab bl ak) aj fun (x,_) (_) _=>Js x ) (av (au (ab (al bb) (ab (al aw) (ab (al cJ) ak))) aj fun (l,most,_,_) (_) hp=>pU l most (dB hp)) (av (au (ab (al bb) (ab (al aw) (ab (al cJ) ak))) aj fun (l,most,_,_) (_) hp=>qx l most (dB hp)) (av (au (ab (al bb) (ab (al aw) (ab (al cJ) ak))) aj fun (l,most,_,_) (_) hp=>qm l most (dB hp)) (av (au (ab (al IK) ak) aj fun (n,_) (_) _=>Kw n ) gv))))))
theorem Lt {n k:Nat} (h:(k:Int)<aX n):(dW n k).set k (UInt8.ofNat (n / 128 ^ k) ||| UInt8.ofNat 128)=dW n (k+1):=uG (by omega)
theorem EA {n k:Nat} (h1:k<=aX n) (h2:(aX n:Int)<=(k:Int)):(dW n k).set ((aX n:Int) - 1).toNat ((dW n k).getD ((aX n:Int) - 1).toNat (dflt Sh.u8) &&& UInt8.ofNat 127)=fj n:=by
 have e:k=aX n:=by omega
 have e2:((aX n:Int) - 1).toNat=aX n - 1:=by omega
 have hl:=kM (n:=n) (Nat.le_refl _)
 have hp:=iC n
 subst e
 have hlt:aX n - 1<(dW n (aX n)).length:=by omega
 rw [e2,List.getD_eq_getElem?_getD,List.getElem?_eq_getElem hlt,Option.getD_some,uF (List.getElem?_eq_getElem hlt)]
 rfl
def Nd (n:U64):List (Nat × LI):=[(4,{ σ:=Nat,F:=fun k=>([(0,one (.u64 (n.n / 128 ^ k))),(3,one (.int (aX n.n))),(4,one (.own 0)),(10,one (.int (aX n.n))),(11,one (.int k))],[.row 5 .u8 ((dW n.n k))]),J:=fun k=>k<=aX n.n,μ:=fun k=>aX n.n - k })]
def rk (l:List Sess):List (Nat × LI):=[(2,{ σ:=Nat,F:=fun k=>([(1,one (.fn 130 [] [])),(7,one (.fz (.nm .sess) (l))),(8,one (.int (l).length)),(9,one (.int k))],[]),J:=fun k=>k<=l.length/\(l.take k).all (dj)=true,μ:=fun k=>(l).length - k })]
def tF (l:List Opn):List (Nat × LI):=[(2,{ σ:=Nat,F:=fun k=>([(1,one (.fn 134 [] [])),(7,one (.fz (.nm .opn) (l))),(8,one (.int (l).length)),(9,one (.int k))],[]),J:=fun k=>k<=l.length/\(l.take k).all (dr)=true,μ:=fun k=>(l).length - k })]
theorem NI (n:U64) (r0:List UInt8):n_ tyT pB (Nd n) Tryz.f120 [.c (.u64 (n).n)] [] [.c (.own 0)] [.row 5 .u8 (r0)]=((fun (q2:Nat)=>(fun (q1:Int)=>(fun (q0:Int)=>n.n<(18446744073709551616:Nat)->I64 q0->(0:Int)<=q0/\q0*(↑(1:Nat):Int)<=(140737488355328:Int)/\q0=q0/\∃ (s0:Nat),(fun (q3:Int)=>(n.n=n.n / (128:Nat) ^ s0/\q0=q0/\q0=q0/\(0:Int)=(↑s0:Int)/\List.replicate q2 (dflt Sh.u8)=dW n.n s0)/\s0<=q2/\∀ (s:Nat),(fun (q4:List UInt8)=>s<=q2->((↑s:Int)<q0->(0:Int)<=(↑s:Int)/\(↑s:Int)<(↑q4.length:Int)/\(7:Nat)<(64:Nat)/\I64 ((↑s:Int)+q1)/\∃ (s':Nat),(n.n / (128:Nat) ^ s / (2:Nat) ^ (7:Nat)=n.n / (128:Nat) ^ s' /\ q0=q0/\q0=q0/\(↑s:Int)+q1=(↑s':Int)/\q4.set s (UInt8.ofNat (n.n / (128:Nat) ^ s) ||| UInt8.ofNat (128:Nat))=dW n.n s')/\s' <= q2/\q2 - s' < q2 - s)/\(q0<=(↑s:Int)->I64 q3/\(0:Int)<=q3/\q3<(↑q4.length:Int)/\(0:Int)<=q3/\q3<(↑q4.length:Int)/\q4.set q3.toNat (q4.getD q3.toNat (dflt Sh.u8) &&& UInt8.ofNat (127:Nat))=r0)) (dW n.n s)) (q0 - q1)) (↑q2:Int)) (1:Int)) (aX n.n)):=by kernel_rfl
theorem Oi (n:U64):Sat Tryz.prog (ai tyT) 120 [.c (.u64 (n).n)] [] ⟨[],[.c (.own 0)],some ([.row 5 .u8 ((fj n.n))]),true⟩:=by
 refine dO ft (Nd n) Tryz.func120 (by decide) (by kernel_rfl) ?_
 rw [NI]
 intro hn
 have h1:=iC n.n
 have h10:=mn hn
 iterate 3 ((all_goals (repeat' (first | with_reducible apply bP | with_reducible refine bQ ?_ | intro))); (all_goals try (first | exact cn | exact (u_ n.n) | exact (Lt aQ) | exact (EA aQ aQ) | exact div_pow | exact (by rw [Nat.pow_zero,Nat.div_one]) | exact (by rw [kM aQ]; omega))); all_goals try first | refine ⟨‹Nat› + 1,?_⟩ | refine ⟨0,?_⟩)
theorem yQ (l:List Sess) (r0:Bool):cw tyT pB (rk l) Tryz.f129 [.c (.fz (.nm .sess) (l)),.c (.fn 130 [] [])] [] [.c (.bool (.atom (r0)))]=((fun (q0:Nat)=>l.length*(32:Nat)<=(140737488355328:Nat)->∃ (s0:Nat),(l=l/\(↑l.length:Int)=(↑q0:Int)/\(0:Int)=(↑s0:Int))/\(s0<=q0/\(List.take s0 l).all dj=true)/\∀ (s:Nat),s<=q0/\(List.take s l).all dj=true->((↑s:Int)<(↑q0:Int)->(0:Int)<=(↑s:Int)/\(↑s:Int)<(↑l.length:Int)/\∀ (x:Sess),l[s]? = some x->I64 x.client->I64 x.seq->I64 x.last.code->I64 x.last.n->(dj x=false->false=r0)/\(dj x=true->I64 ((↑s:Int)+(1:Int))/\∃ (s':Nat),(l=l/\(↑q0:Int)=(↑q0:Int)/\(↑s:Int)+(1:Int)=(↑s':Int))/\(s' <= q0/\(List.take s' l).all dj=true)/\q0 - s' < q0 - s))/\((↑q0:Int)<=(↑s:Int)->true=r0)) l.length):=by kernel_rfl
theorem xW (l:List Sess):Sat Tryz.prog (ai tyT) 129 [.c (.fz (.nm .sess) (l)),.c (.fn 130 [] [])] [] ⟨[],[.c (.bool (.atom ((l.all (dj)))))],none,false⟩:=by
 refine aM ft (rk l) Tryz.func129 (by decide) (by kernel_rfl) ?_
 rw [yQ]
 iterate 3 ((all_goals (repeat' (first | with_reducible apply bP | with_reducible refine bQ ?_ | intro))); (all_goals try (first | exact cn | exact (mu (p:=dj) aq aq aq) | exact (CU (p:=dj) aq aq) | exact (Dd (p:=dj) aq aQ) | exact rfl)); all_goals try first | refine ⟨‹Nat› + 1,?_⟩ | refine ⟨0,?_⟩)
theorem xB (l:List Opn) (r0:Bool):cw tyT pB (tF l) Tryz.f133 [.c (.fz (.nm .opn) (l)),.c (.fn 134 [] [])] [] [.c (.bool (.atom (r0)))]=((fun (q0:Nat)=>l.length*(16:Nat)<=(140737488355328:Nat)->∃ (s0:Nat),(l=l/\(↑l.length:Int)=(↑q0:Int)/\(0:Int)=(↑s0:Int))/\(s0<=q0/\(List.take s0 l).all dr=true)/\∀ (s:Nat),s<=q0/\(List.take s l).all dr=true->((↑s:Int)<(↑q0:Int)->(0:Int)<=(↑s:Int)/\(↑s:Int)<(↑l.length:Int)/\∀ (x:Opn),l[s]? = some x->I64 x.set->I64 x.client->(dr x=false->false=r0)/\(dr x=true->I64 ((↑s:Int)+(1:Int))/\∃ (s':Nat),(l=l/\(↑q0:Int)=(↑q0:Int)/\(↑s:Int)+(1:Int)=(↑s':Int))/\(s' <= q0/\(List.take s' l).all dr=true)/\q0 - s' < q0 - s))/\((↑q0:Int)<=(↑s:Int)->true=r0)) l.length):=by kernel_rfl
theorem yC (l:List Opn):Sat Tryz.prog (ai tyT) 133 [.c (.fz (.nm .opn) (l)),.c (.fn 134 [] [])] [] ⟨[],[.c (.bool (.atom ((l.all (dr)))))],none,false⟩:=by
 refine aM ft (tF l) Tryz.func133 (by decide) (by kernel_rfl) ?_
 rw [xB]
 iterate 3 ((all_goals (repeat' (first | with_reducible apply bP | with_reducible refine bQ ?_ | intro))); (all_goals try (first | exact cn | exact (mu (p:=dr) aq aq aq) | exact (CU (p:=dr) aq aq) | exact (Dd (p:=dr) aq aQ) | exact rfl)); all_goals try first | refine ⟨‹Nat› + 1,?_⟩ | refine ⟨0,?_⟩)
theorem qA (l:List Sess) (r0:List Sess):n_ tyT pB [] Tryz.f56 [.c (.fz (.nm .sess) (l))] [] [.c (.own 0)] [.row 82 (.nm .sess) (r0)]=((fun (q0:Prop)=>q0->∀ (b:Bool),(b=true->l=[])->(b=true->r0=[])/\(b=false->q0/\l=r0)) (l.length*(32:Nat)<=(140737488355328:Nat))):=by kernel_rfl
theorem pA (l:List Sess):Sat Tryz.prog (ai tyT) 56 [.c (.fz (.nm .sess) (l))] [] ⟨[],[.c (.own 0)],some ([.row 82 (.nm .sess) ((l))]),true⟩:=by
 refine dO ft [] Tryz.func56 (by decide) (by kernel_rfl) ?_
 rw [qA]
 exact fun h b hb=>⟨hb,fun _=>⟨h,rfl⟩⟩
theorem tp (l:List Opn) (r0:List Opn):n_ tyT pB [] Tryz.f57 [.c (.fz (.nm .opn) (l))] [] [.c (.own 0)] [.row 63 (.nm .opn) (r0)]=((fun (q0:Prop)=>q0->∀ (b:Bool),(b=true->l=[])->(b=true->r0=[])/\(b=false->q0/\l=r0)) (l.length*(16:Nat)<=(140737488355328:Nat))):=by kernel_rfl
theorem rb (l:List Opn):Sat Tryz.prog (ai tyT) 57 [.c (.fz (.nm .opn) (l))] [] ⟨[],[.c (.own 0)],some ([.row 63 (.nm .opn) ((l))]),true⟩:=by
 refine dO ft [] Tryz.func57 (by decide) (by kernel_rfl) ?_
 rw [tp]
 exact fun h b hb=>⟨hb,fun _=>⟨h,rfl⟩⟩
theorem qO (l:List Snap) (r0:List Snap):n_ tyT pB [] Tryz.f58 [.c (.fz (.nm .snap) (l))] [] [.c (.own 0)] [.row 73 (.nm .snap) (r0)]=((fun (q0:Prop)=>q0->∀ (b:Bool),(b=true->l=[])->(b=true->r0=[])/\(b=false->q0/\l=r0)) (l.length*(64:Nat)<=(140737488355328:Nat))):=by kernel_rfl
theorem pC (l:List Snap):Sat Tryz.prog (ai tyT) 58 [.c (.fz (.nm .snap) (l))] [] ⟨[],[.c (.own 0)],some ([.row 73 (.nm .snap) ((l))]),true⟩:=by
 refine dO ft [] Tryz.func58 (by decide) (by kernel_rfl) ?_
 rw [qO]
 exact fun h b hb=>⟨hb,fun _=>⟨h,rfl⟩⟩
theorem rh (l:List Int) (r0:List Int):cw tyT pB [] Tryz.f59 [.c (.fz .int (l))] [] [.c (.fz .int (r0))]=((fun (q0:Prop)=>q0->∀ (b:Bool),(b=true->l=[])->(b=true->r0=[])/\(b=false->q0/\l=r0)) (l.length*(8:Nat)<=(140737488355328:Nat))):=by kernel_rfl
theorem rY (l:List Int):Sat Tryz.prog (ai tyT) 59 [.c (.fz .int (l))] [] ⟨[],[.c (.fz .int ((l)))],none,false⟩:=by
 refine aM ft [] Tryz.func59 (by decide) (by kernel_rfl) ?_
 rw [rh]
 intros; repeat' (first | refine And.intro ?_ ?_ | intro)
 all_goals first | rfl | assumption | simp_all
def rF:cd:=(bq 59 (bm (ah (kC (cL .int)) aK) aJ fun (l,_) (_)=>⟨[],[.c (.fz .int ((l)))],none,false⟩) (bq 58 (bm (ah (kC (cL (.nm .snap))) aK) aJ fun (l,_) (_)=>⟨[],[.c (.own 0)],some ([.row 73 (.nm .snap) ((l))]),true⟩) (bq 57 (bm (ah (kC (cL (.nm .opn))) aK) aJ fun (l,_) (_)=>⟨[],[.c (.own 0)],some ([.row 63 (.nm .opn) ((l))]),true⟩) (bq 56 (bm (ah (kC (cL (.nm .sess))) aK) aJ fun (l,_) (_)=>⟨[],[.c (.own 0)],some ([.row 82 (.nm .sess) ((l))]),true⟩) (bq 133 (bm (ah (kC (cL (.nm .opn))) (ah (kC (nX 134 [] [])) aK)) aJ fun (l,_,_) (_)=>⟨[],[.c (.bool (.atom ((l.all (dr)))))],none,false⟩) (bq 129 (bm (ah (kC (cL (.nm .sess))) (ah (kC (nX 130 [] [])) aK)) aJ fun (l,_,_) (_)=>⟨[],[.c (.bool (.atom ((l.all (dj)))))],none,false⟩) (bq 120 (bm (ah (kC cU) aK) aJ fun (n,_) (_)=>⟨[],[.c (.own 0)],some ([.row 5 .u8 ((fj n.n))]),true⟩) pB)))))))
theorem gA:aN Tryz.prog (ai tyT) rF:=(av (au (ab (al bb) ak) aj fun (l,_) (_) _=>rY l ) (av (au (ab (al bb) ak) aj fun (l,_) (_) _=>pC l ) (av (au (ab (al bb) ak) aj fun (l,_) (_) _=>rb l ) (av (au (ab (al bb) ak) aj fun (l,_) (_) _=>pA l ) (av (au (ab (al bb) (ab (al cJ) ak)) aj fun (l,_,_) (_) _=>yC l ) (av (au (ab (al bb) (ab (al cJ) ak)) aj fun (l,_,_) (_) _=>xW l ) (av (au (ab (al IK) ak) aj fun (n,_) (_) _=>Oi n ) ft)))))))
theorem JH {x:Int} {l:List Int} {k:Nat} (h:fU x (l.take k) = -1) (hk:l.length<=k):-1=fU x l:=by rw [List.take_of_length_le hk] at h; exact h.symm
theorem Gy {x y:Int} {l:List Int} {k:Nat} (h:fU x (l.take k) = -1) (hy:l[k]? = some y) (e:x=y):(k:Int)=fU x l:=by
 refine zw (fun j z hj hz hc=>?_) hy e
 have hm:z ∈ l.take k:=by
  obtain ⟨h1,h2⟩:=List.getElem?_eq_some_iff.1 hz
  rw [List.mem_take_iff_getElem]; exact ⟨j,by omega,h2⟩
 have:decide (0<=fU x (l.take k))=true:=by rw [wh,List.contains_iff_mem,hc]; exact hm
 rw [decide_eq_true_eq] at this; omega
theorem Kf {x y:Int} {l:List Int} {k:Nat} (h:fU x (l.take k) = -1) (hy:l[k]? = some y) (e:¬ x=y):fU x (l.take (k+1)) = -1:=by
 have h0:(l.take k).contains x=false:=by
  have:=wh x (l.take k)
  rw [<- this,h]; decide
 have h1:(l.take (k+1)).contains x=false:=by
  rw [ax hy,<- Bool.not_eq_true,List.contains_iff_mem] at *
  intro hm
  rcases List.mem_append.1 hm with hm | hm
  ·exact h0 hm
  ·exact e (List.mem_singleton.1 hm)
 rw [<- wh,decide_eq_false_iff_not] at h1
 unfold fU at h1 ⊢
 split
 ·rename_i i hi; rw [hi] at h1; dsimp only at h1; omega
 ·rfl
theorem Px {l:List Int} {k:Nat} {x:Int} (hr:rowF l=true) (hx:l[k]? = some x):0<=x:=Int.le_of_lt (pV hr x (List.mem_of_getElem? hx)).1
theorem JK {l:List Int} {k:Nat} {x:Int} (hr:rowF l=true) (hx:l[k]? = some x):((fb (l.take k)).length+(fj x.toNat).length)*1<=140737488355328:=by
 have h1:=Ay (l:=l.take k) (fun x hx=>(pV hr x (List.mem_of_mem_take hx)).2)
 have h2:=xh hr
 have h3:=pV hr x (List.mem_of_getElem? hx)
 have h4:=dG (n:=x.toNat) (by omega)
 rw [List.length_take] at h1; omega
def CS (l:List Int) (x:Int):List (Nat × LI):=[(2,{ σ:=Nat,F:=fun k=>([(0,one (.fz .int (l))),(1,one (.int (x))),(7,one (.int (l).length)),(8,one (.int k))],[]),J:=fun k=>k<=l.length/\fU x (l.take k) = -1,μ:=fun k=>(l).length - k })]
def wZ (l:List Int):List (Nat × LI):=[(5,{ σ:=Nat,F:=fun k=>([(4,one (.own 0)),(10,one (.fz .int (l))),(11,one (.int (l).length)),(12,one (.int k))],[.row 5 .u8 ((fb (l.take k)))]),J:=fun k=>k<=l.length/\rowF l=true,μ:=fun k=>(l).length - k })]
theorem HK (l:List Int) (x:Int) (r0:Int):cw tyT rF (CS l x) Tryz.f116 [.c (.fz .int (l)),.c (.int (x))] [] [.c (.int (r0))]=((fun (q1:Int)=>(fun (q0:Nat)=>l.length*(8:Nat)<=(140737488355328:Nat)->I64 x->∃ (s0:Nat),(l=l/\x=x/\(↑l.length:Int)=(↑q0:Int)/\(0:Int)=(↑s0:Int))/\(s0<=q0/\fU x (List.take s0 l) = -q1)/\∀ (s:Nat),s<=q0/\fU x (List.take s l) = -q1->((↑s:Int)<(↑q0:Int)->(0:Int)<=(↑s:Int)/\(↑s:Int)<(↑l.length:Int)/\∀ (x_1:Int),l[s]? = some x_1->I64 x_1->(x=x_1->(↑s:Int)=r0)/\(¬x=x_1->I64 ((↑s:Int)+q1)/\∃ (s':Nat),(l=l/\x=x/\(↑q0:Int)=(↑q0:Int)/\(↑s:Int)+q1=(↑s':Int))/\(s' <= q0/\fU x (List.take s' l) = -q1)/\q0 - s' < q0 - s))/\((↑q0:Int)<=(↑s:Int) -> -q1=r0)) l.length) (1:Int)):=by kernel_rfl
theorem FW (l:List Int) (x:Int):Sat Tryz.prog (ai tyT) 116 [.c (.fz .int (l)),.c (.int (x))] [] ⟨[],[.c (.int ((fU x l)))],none,false⟩:=by
 refine aM gA (CS l x) Tryz.func116 (by decide) (by kernel_rfl) ?_
 rw [HK]
 iterate 3 ((all_goals (repeat' (first | with_reducible apply bP | with_reducible refine bQ ?_ | intro))); (all_goals try (first | exact cn | exact rfl | exact (JH aq aQ) | exact (Gy aq aq aq) | exact (Kf aq aq aq))); all_goals try first | refine ⟨‹Nat› + 1,?_⟩ | refine ⟨0,?_⟩)
theorem Gm (n:Int) (most:Int) (named:Bool) (r0:Bool):cw tyT rF [] Tryz.f78 [.c (.int (n)),.c (.int (most)),.c (.bool (.atom (named)))] [] [.c (.bool (.atom (r0)))]=(I64 n->I64 most->(named=true->(decide ((1:Int)<=n) && decide (n<=most))=r0)/\(named=false->decide (n=(0:Int))=r0)):=by kernel_rfl
theorem HI (n:Int) (most:Int) (named:Bool):Sat Tryz.prog (ai tyT) 78 [.c (.int (n)),.c (.int (most)),.c (.bool (.atom (named)))] [] ⟨[],[.c (.bool (.atom ((lh n most named))))],none,false⟩:=by
 refine aM gA [] Tryz.func78 (by decide) (by kernel_rfl) ?_
 rw [Gm]
 grind [lh]
theorem BX (l:List Int) (r0:List UInt8) (r1:Int):cw tyT rF (wZ l) Tryz.f86 [.c (.fz .int (l))] [] [.c (.fz .u8 (r0)),.c (.int (r1))]=((fun (q1:Prop)=>(fun (q0:Nat)=>l.length*(8:Nat)<=(140737488355328:Nat)->(rowF l=false->r0=[]/\(1:Int)=r1)/\(q1->∃ (s0:Nat),(l=l/\(↑l.length:Int)=(↑q0:Int)/\(0:Int)=(↑s0:Int)/\fb (List.take s0 l)=[])/\(s0<=q0/\q1)/\∀ (s:Nat),s<=q0/\q1->((↑s:Int)<(↑q0:Int)->(0:Int)<=(↑s:Int)/\(↑s:Int)<(↑l.length:Int)/\∀ (x:Int),l[s]? = some x->I64 x->(0:Int)<=x/\((fb (List.take s l)).length+(fj x.toNat).length)*(1:Nat)<=(140737488355328:Nat)/\I64 ((↑s:Int)+(1:Int))/\∃ (s':Nat),(l=l/\(↑q0:Int)=(↑q0:Int)/\(↑s:Int)+(1:Int)=(↑s':Int)/\fb (List.take s l)++fj x.toNat=fb (List.take s' l))/\(s' <= q0/\q1)/\q0 - s' < q0 - s)/\((↑q0:Int)<=(↑s:Int)->fb (List.take s l)=r0/\(0:Int)=r1))) l.length) (rowF l=true)):=by kernel_rfl
theorem zx (l:List Int):Sat Tryz.prog (ai tyT) 86 [.c (.fz .int (l))] [] ⟨[],[.c (.fz .u8 ((dy l))),.c (.int ((eg l)))],none,false⟩:=by
 refine aM gA (wZ l) Tryz.func86 (by decide) (by kernel_rfl) ?_
 rw [BX]
 iterate 3 ((all_goals (repeat' (first | with_reducible apply bP | with_reducible refine bQ ?_ | intro))); (all_goals try (first | exact cn | exact rfl | exact (xS aq).symm | exact (nv aq) | exact (sA aq) | exact (zV aq aQ) | exact (xw aq) | exact (Px aq aq) | exact (JK aq aq))); all_goals try first | refine ⟨‹Nat› + 1,?_⟩ | refine ⟨0,?_⟩)
theorem zM (s:State) (x:Int) (r0:Int):cw tyT rF [] Tryz.f63 [.agg (cellsOf (.nm .state) s),.c (.int (x))] [] [.c (.int (r0))]=(I64 s.version->I64 s.next->I64 s.keep->I64 s.quota->s.sess.length*(32:Nat)<=(140737488355328:Nat)->s.opens.length*(16:Nat)<=(140737488355328:Nat)->s.snaps.length*(64:Nat)<=(140737488355328:Nat)->I64 x->I64 (ay Sess.client x s.sess)->ay Sess.client x s.sess=r0):=by kernel_rfl
theorem DI (s:State) (x:Int):Sat Tryz.prog (ai tyT) 63 [.agg (cellsOf (.nm .state) s),.c (.int (x))] [] ⟨[],[.c (.int ((ay Sess.client x s.sess)))],none,false⟩:=by
 refine aM gA [] Tryz.func63 (by decide) (by kernel_rfl) ?_
 rw [zM]
 grind
theorem Aa (s:State) (x:Int) (r0:Int):cw tyT rF [] Tryz.f175 [.agg (cellsOf (.nm .state) s),.c (.int (x))] [] [.c (.int (r0))]=(I64 s.version->I64 s.next->I64 s.keep->I64 s.quota->s.sess.length*(32:Nat)<=(140737488355328:Nat)->s.opens.length*(16:Nat)<=(140737488355328:Nat)->s.snaps.length*(64:Nat)<=(140737488355328:Nat)->I64 x->I64 (ay Opn.set x s.opens)->ay Opn.set x s.opens=r0):=by kernel_rfl
theorem Ad (s:State) (x:Int):Sat Tryz.prog (ai tyT) 175 [.agg (cellsOf (.nm .state) s),.c (.int (x))] [] ⟨[],[.c (.int ((ay Opn.set x s.opens)))],none,false⟩:=by
 refine aM gA [] Tryz.func175 (by decide) (by kernel_rfl) ?_
 rw [Aa]
 grind
theorem Bm (s:State) (x:Int) (r0:Int):cw tyT rF [] Tryz.f139 [.agg (cellsOf (.nm .state) s),.c (.int (x))] [] [.c (.int (r0))]=(I64 s.version->I64 s.next->I64 s.keep->I64 s.quota->s.sess.length*(32:Nat)<=(140737488355328:Nat)->s.opens.length*(16:Nat)<=(140737488355328:Nat)->s.snaps.length*(64:Nat)<=(140737488355328:Nat)->I64 x->I64 (ay Snap.id x s.snaps)->ay Snap.id x s.snaps=r0):=by kernel_rfl
theorem DJ (s:State) (x:Int):Sat Tryz.prog (ai tyT) 139 [.agg (cellsOf (.nm .state) s),.c (.int (x))] [] ⟨[],[.c (.int ((ay Snap.id x s.snaps)))],none,false⟩:=by
 refine aM gA [] Tryz.func139 (by decide) (by kernel_rfl) ?_
 rw [Bm]
 grind
def FN:cd:=(bq 139 (bm (ah (kT (.nm .state)) (ah (kC cI) aK)) aJ fun (s,x,_) (_)=>⟨[],[.c (.int ((ay Snap.id x s.snaps)))],none,false⟩) (bq 175 (bm (ah (kT (.nm .state)) (ah (kC cI) aK)) aJ fun (s,x,_) (_)=>⟨[],[.c (.int ((ay Opn.set x s.opens)))],none,false⟩) (bq 63 (bm (ah (kT (.nm .state)) (ah (kC cI) aK)) aJ fun (s,x,_) (_)=>⟨[],[.c (.int ((ay Sess.client x s.sess)))],none,false⟩) (bq 86 (bm (ah (kC (cL .int)) aK) aJ fun (l,_) (_)=>⟨[],[.c (.fz .u8 ((dy l))),.c (.int ((eg l)))],none,false⟩) (bq 78 (bm (ah (kC cI) (ah (kC cI) (ah (kC cB) aK))) aJ fun (n,most,named,_) (_)=>⟨[],[.c (.bool (.atom ((lh n most named))))],none,false⟩) (bq 116 (bm (ah (kC (cL .int)) (ah (kC cI) aK)) aJ fun (l,x,_) (_)=>⟨[],[.c (.int ((fU x l)))],none,false⟩) rF))))))
theorem qh:aN Tryz.prog (ai tyT) FN:=(av (au (ab bl (ab (al aw) ak)) aj fun (s,x,_) (_) _=>DJ s x ) (av (au (ab bl (ab (al aw) ak)) aj fun (s,x,_) (_) _=>Ad s x ) (av (au (ab bl (ab (al aw) ak)) aj fun (s,x,_) (_) _=>DI s x ) (av (au (ab (al bb) ak) aj fun (l,_) (_) _=>zx l ) (av (au (ab (al aw) (ab (al aw) (ab (al sg) ak))) aj fun (n,most,named,_) (_) _=>HI n most named ) (av (au (ab (al bb) (ab (al aw) ak)) aj fun (l,x,_) (_) _=>FW l x ) gA))))))
theorem uD (l:List Int) (x:Int) (r0:Bool):cw tyT FN [] Tryz.f77 [.c (.fz .int (l)),.c (.int (x))] [] [.c (.bool (.atom (r0)))]=(l.length*(8:Nat)<=(140737488355328:Nat)->I64 x->I64 (fU x l)->decide ((0:Int)<=fU x l)=r0):=by kernel_rfl
theorem tW (l:List Int) (x:Int):Sat Tryz.prog (ai tyT) 77 [.c (.fz .int (l)),.c (.int (x))] [] ⟨[],[.c (.bool (.atom ((l.contains x))))],none,false⟩:=by
 refine aM qh [] Tryz.func77 (by decide) (by kernel_rfl) ?_
 rw [uD]
 intros; exact wh _ _
theorem za (x:Snap) (v:Int) (t:Int) (r0:Bool):cw tyT FN [] Tryz.f172 [.agg (cellsOf (.nm .snap) x),.c (.ptr 0 0),.c (.ptr 1 0)] [.box 3 ([.int (v)]),.box 3 ([.int (t)])] [.c (.bool (.atom (r0)))]=(I64 x.id->I64 x.set->x.chunks.length*(8:Nat)<=(140737488355328:Nat)->x.tag.b.length<=(140737488355328:Nat)->(dy x.chunks).length*(1:Nat)<=(140737488355328:Nat)->I64 (eg x.chunks)->(decide (eg x.chunks=(0:Int)) && cE x.set (1:Int) (8:Int) && (!x.held || decide ((2:Int)<=v)) && decide ((↑x.tag.b.length:Int)<=t))=r0):=by kernel_rfl
theorem AD (x:Snap) (v:Int) (t:Int):Sat Tryz.prog (ai tyT) 172 [.agg (cellsOf (.nm .snap) x),.c (.ptr 0 0),.c (.ptr 1 0)] [.box 3 ([.int (v)]),.box 3 ([.int (t)])] ⟨[],[.c (.bool (.atom ((cQ v t x))))],none,false⟩:=by
 refine aM qh [] Tryz.func172 (by decide) (by kernel_rfl) ?_
 rw [za]
 intros; rfl
def GV:cd:=(bq 172 (bm (ah (kT (.nm .snap)) (ah (kC (bJ 0 0)) (ah (kC (bJ 1 0)) aK))) (az (bH 3 (ao cI bF)) (az (bH 3 (ao cI bF)) aJ)) fun (x,_,_,_) ((v,_),(t,_),_)=>⟨[],[.c (.bool (.atom ((cQ v t x))))],none,false⟩) (bq 77 (bm (ah (kC (cL .int)) (ah (kC cI) aK)) aJ fun (l,x,_) (_)=>⟨[],[.c (.bool (.atom ((l.contains x))))],none,false⟩) FN))
theorem pj:aN Tryz.prog (ai tyT) GV:=(av (au (ab bl (ab (al aI) (ab (al aI) ak))) (ag (aG (ae aw aF)) (ag (aG (ae aw aF)) aj)) fun (x,_,_,_) ((v,_),(t,_),_) _=>AD x v t ) (av (au (ab (al bb) (ab (al aw) ak)) aj fun (l,x,_) (_) _=>tW l x ) qh))
def rO (l:List Snap) (v:Int) (t:Int):List (Nat × LI):=[(2,{ σ:=Nat,F:=fun k=>([(1,one (.fn 172 [] [(0,0),(1,0)])),(7,one (.fz (.nm .snap) (l))),(8,one (.int (l).length)),(9,one (.int k))],[.box 3 ([.int ((v))]),.box 3 ([.int ((t))])]),J:=fun k=>k<=l.length/\(l.take k).all ((cQ v t))=true,μ:=fun k=>(l).length - k })]
theorem FX (l:List Int) (c:Command) (r0:Bool):cw tyT GV [] Tryz.f76 [.c (.fz .int (l)),.c (.ptr 0 0)] [.box 24 (cellsOf (.nm .command) (c))] [.c (.bool (.atom (r0)))]=(l.length*(8:Nat)<=(140737488355328:Nat)->l.contains c.kind=r0):=by kernel_rfl
theorem FG (l:List Int) (c:Command):Sat Tryz.prog (ai tyT) 76 [.c (.fz .int (l)),.c (.ptr 0 0)] [.box 24 (cellsOf (.nm .command) (c))] ⟨[],[.c (.bool (.atom ((l.contains c.kind))))],none,false⟩:=by
 refine aM pj [] Tryz.func76 (by decide) (by kernel_rfl) ?_
 rw [FX]
 grind
theorem yH (l:List Snap) (v:Int) (t:Int) (r0:Bool):cw tyT GV (rO l v t) Tryz.f171 [.c (.fz (.nm .snap) (l)),.c (.fn 172 [] [(0,0),(1,0)])] [.box 3 ([.int (v)]),.box 3 ([.int (t)])] [.c (.bool (.atom (r0)))]=((fun (q0:Nat)=>l.length*(64:Nat)<=(140737488355328:Nat)->∃ (s0:Nat),(l=l/\(↑l.length:Int)=(↑q0:Int)/\(0:Int)=(↑s0:Int)/\v=v/\t=t)/\(s0<=q0/\(List.take s0 l).all (cQ v t)=true)/\∀ (s:Nat),s<=q0/\(List.take s l).all (cQ v t)=true->((↑s:Int)<(↑q0:Int)->(0:Int)<=(↑s:Int)/\(↑s:Int)<(↑l.length:Int)/\∀ (x:Snap),l[s]? = some x->I64 x.id->I64 x.set->x.chunks.length*(8:Nat)<=(140737488355328:Nat)->x.tag.b.length<=(140737488355328:Nat)->(cQ v t x=false->false=r0)/\(cQ v t x=true->I64 ((↑s:Int)+(1:Int))/\∃ (s':Nat),(l=l/\(↑q0:Int)=(↑q0:Int)/\(↑s:Int)+(1:Int)=(↑s':Int)/\v=v/\t=t)/\(s' <= q0/\(List.take s' l).all (cQ v t)=true)/\q0 - s' < q0 - s))/\((↑q0:Int)<=(↑s:Int)->true=r0)) l.length):=by kernel_rfl
theorem xV (l:List Snap) (v:Int) (t:Int):Sat Tryz.prog (ai tyT) 171 [.c (.fz (.nm .snap) (l)),.c (.fn 172 [] [(0,0),(1,0)])] [.box 3 ([.int (v)]),.box 3 ([.int (t)])] ⟨[],[.c (.bool (.atom ((l.all ((cQ v t))))))],none,false⟩:=by
 refine aM pj (rO l v t) Tryz.func171 (by decide) (by kernel_rfl) ?_
 rw [yH]
 iterate 3 ((all_goals (repeat' (first | with_reducible apply bP | with_reducible refine bQ ?_ | intro))); (all_goals try (first | exact cn | exact (mu (p:=(cQ v t)) aq aq aq) | exact (CU (p:=(cQ v t)) aq aq) | exact (Dd (p:=(cQ v t)) aq aQ) | exact rfl)); all_goals try first | refine ⟨‹Nat› + 1,?_⟩ | refine ⟨0,?_⟩)
def GI:cd:=(bq 171 (bm (ah (kC (cL (.nm .snap))) (ah (kC (nX 172 [] [(0,0),(1,0)])) aK)) (az (bH 3 (ao cI bF)) (az (bH 3 (ao cI bF)) aJ)) fun (l,_,_) ((v,_),(t,_),_)=>⟨[],[.c (.bool (.atom ((l.all ((cQ v t))))))],none,false⟩) (bq 76 (bm (ah (kC (cL .int)) (ah (kC (bJ 0 0)) aK)) (az (bH 24 (qP (.nm .command) bF)) aJ) fun (l,_,_) ((c,_),_)=>⟨[],[.c (.bool (.atom ((l.contains c.kind))))],none,false⟩) GV))
theorem pG:aN Tryz.prog (ai tyT) GI:=(av (au (ab (al bb) (ab (al cJ) ak)) (ag (aG (ae aw aF)) (ag (aG (ae aw aF)) aj)) fun (l,_,_) ((v,_),(t,_),_) _=>xV l v t ) (av (au (ab (al bb) (ab (al aI) ak)) (ag (aG (dt aF)) aj) fun (l,_,_) ((c,_),_) _=>FG l c ) pj))
theorem NJ (k:Int):(if k=12 then some (Span.mk 0 64) else if k=8 then some (Span.mk 2 3) else if k=6 then some (Span.mk 0 8) else none).getD (dflt (.nm .span))=⟨(oX k).1,(oX k).2⟩:=by
 by_cases h1:k=12
 ·subst h1; rfl
 ·by_cases h2:k=8
  ·subst h2; rfl
  ·by_cases h3:k=6
   ·subst h3; rfl
   ·simp [oX,oM,h1,h2,h3,dflt]; rfl
theorem JL (c:Command) (r0:Bool):cw tyT GI [] Tryz.f40 [.agg (cellsOf (.nm .command) c)] [] [.c (.bool (.atom (r0)))]=((fun (q9:Int)=>(fun (q8:Int)=>(fun (q7:Prop)=>(fun (q6:Bool)=>(fun (q5:Bool)=>(fun (q4:Bool)=>(fun (q3:Prop)=>(fun (q2:Prop)=>(fun (q1:Prop)=>(fun (q0:den (Sh.nm NT.span))=>I64 q8->I64 c.client->I64 c.seq->I64 c.set->I64 c.id->I64 c.n->c.chunks.length*(8:Nat)<=(140737488355328:Nat)->c.text.b.length<=(140737488355328:Nat)->(q8=(3:Int)->((decide (q0.lo<=c.n) && decide (c.n<=q0.hi))=true->(rowF c.chunks=true->(q7->q1)/\(¬q7->q2))/\(rowF c.chunks=false->q2))/\((decide (q0.lo<=c.n) && decide (c.n<=q0.hi))=false->q2))/\(¬q8=(3:Int)->(q8=(11:Int)->((decide (q0.lo<=c.n) && decide (c.n<=q0.hi))=true->(q3->((↑c.text.b.length:Int)<=(16:Int)->q1)/\((16:Int)<(↑c.text.b.length:Int)->q2))/\(¬q3->q2))/\((decide (q0.lo<=c.n) && decide (c.n<=q0.hi))=false->q2))/\(¬q8=(11:Int)->((decide (q0.lo<=c.n) && decide (c.n<=q0.hi))=true->(q3->(q7->q1)/\(¬q7->q2))/\(¬q3->q2))/\((decide (q0.lo<=c.n) && decide (c.n<=q0.hi))=false->q2)))) (((fun (j:Int)=>if j=(12:Int) then some (Span.mk (0:Int) (64:Int)) else (fun (j:Int)=>if j=q9 then some (Span.mk (2:Int) (3:Int)) else (fun (j:Int)=>if j=(6:Int) then some (Span.mk (0:Int) q9) else (fun (_:Int)=>none) j) j) j) q8).getD (dflt (Sh.nm NT.span)))) ((q6=true->(q5=true->(q4=true->lh c.id (1048576:Int) ([(5:Int),(7:Int),(9:Int),(10:Int),(11:Int)].contains q8)=r0)/\(q4=false->q2))/\(q5=false->q2))/\(q6=false->q2))) (false=r0)) ((↑c.chunks.length:Int)=(0:Int))) (lh c.set q9 ([(2:Int),(3:Int),(4:Int)].contains q8))) (lh c.seq (1048576:Int) ![(1:Int),q9].contains q8)) (lh c.client q9 ![q9].contains q8)) (c.text=Str.mk [])) c.kind) (8:Int)):=by kernel_rfl
theorem Kv (c:Command):Sat Tryz.prog (ai tyT) 40 [.agg (cellsOf (.nm .command) c)] [] ⟨[],[.c (.bool (.atom ((lJ c))))],none,false⟩:=by
 refine aM pG [] Tryz.func40 (by decide) (by kernel_rfl) ?_
 rw [JL]
 simp only [NJ]
 (repeat' (first | with_reducible apply bP | with_reducible refine bQ ?_ | intro))
 all_goals ((unfold lJ R_ Sx; simp_all) <;> (intros; omega))
theorem FD (s:State) (v:Int) (r0:Bool):cw tyT GI [] Tryz.f135 [.agg (cellsOf (.nm .state) s),.c (.int (v))] [] [.c (.bool (.atom (r0)))]=((fun (q1:Nat)=>(fun (q0:Int)=>I64 s.version->I64 s.next->I64 s.keep->I64 s.quota->s.sess.length*(32:Nat)<=(140737488355328:Nat)->s.opens.length*(16:Nat)<=(140737488355328:Nat)->q1*(64:Nat)<=(140737488355328:Nat)->I64 v->((↑q1:Int)<=(16:Int)->I64 q0/\q0<=(1048576:Int))/\((16:Int)<(↑q1:Int)\/aE Snap.id q0 (0:Int) s.snaps=false->false=r0)/\((↑q1:Int)<=(16:Int)/\aE Snap.id q0 (0:Int) s.snaps=true->(v<(3:Int)->s.snaps.all (cQ v (0:Int))=r0)/\((3:Int)<=v->s.snaps.all (cQ v (16:Int))=r0))) (s.next - (1:Int))) s.snaps.length):=by kernel_rfl
theorem Ha (s:State) (v:Int) (h0:1<=s.next/\s.next<=1048576):Sat Tryz.prog (ai tyT) 135 [.agg (cellsOf (.nm .state) s),.c (.int (v))] [] ⟨[1<=s.next/\s.next<=1048576],[.c (.bool (.atom ((eW s v))))],none,false⟩:=by
 refine aM pG [] Tryz.func135 (by decide) (by kernel_rfl) ?_
 rw [FD]
 (repeat' (first | with_reducible apply bP | with_reducible refine bQ ?_ | intro))
 all_goals (first | exact cn | ((simp only [eW,pH]; simp_all) <;> (intros; omega)) | (simp only [eW,pH]; grind))
def KG:cd:=(bq 135 (bm (ah (kT (.nm .state)) (ah (kC cI) aK)) aJ fun (s,v,_) (_)=>⟨[1<=s.next/\s.next<=1048576],[.c (.bool (.atom ((eW s v))))],none,false⟩) (bq 40 (bm (ah (kT (.nm .command)) aK) aJ fun (c,_) (_)=>⟨[],[.c (.bool (.atom ((lJ c))))],none,false⟩) GI))
theorem xd:aN Tryz.prog (ai tyT) KG:=(av (au (ab bl (ab (al aw) ak)) aj fun (s,v,_) (_) hp=>Ha s v (dB hp)) (av (au (ab bl ak) aj fun (c,_) (_) _=>Kv c ) pG))
def dk (s:State) (at_:Nat) (k:Nat):Int:=(((s.snaps.drop (at_+1)).take k).filter fun x=>decide (x.set=(s.snaps.getD at_ (dflt (.nm .snap))).set)).length
def jw (s:State) (at_:Int):Bool:=if at_<0\/(s.snaps.length:Int)<=at_ then false else decide (dk s at_.toNat s.snaps.length<s.keep)
def nch (l:List Snap):Nat:=(l.flatMap Snap.chunks).length
def uQ (c:Int) (l:List Snap):Nat:=(l.flatMap Snap.chunks).count c
def bf (id:Int) (l:List Snap):List Snap:=l.filter fun x=>!decide (x.id=id)
theorem gd {α:Type} {l:List α} {k:Nat} {d:α} (h:(k:Int)<l.length):l[k]? = some (l.getD k d):=by
 have hk:k<l.length:=by omega
 rw [List.getD_eq_getElem?_getD,List.getElem?_eq_getElem hk]; rfl
theorem Md {s:State} {a:Nat}:0=dk s a 0:=by simp [dk]
theorem EL {s:State} {a k:Nat}:dk s a k<=(k:Int):=by
 have h1:=List.length_filter_le (fun x:Snap=>decide (x.set=(s.snaps.getD a (dflt (.nm .snap))).set)) ((s.snaps.drop (a+1)).take k)
 have h2:((s.snaps.drop (a+1)).take k).length<=k:=by rw [List.length_take]; omega
 unfold dk; omega
theorem Gq {s:State} {a k:Nat}:0<=dk s a k:=by unfold dk; omega
theorem K_ {s:State} {a k:Nat} (h:a+1+k<=s.snaps.length) (h2:s.snaps.length*64<=140737488355328):I64 (dk s a k+1):=by
 have h1:=EL (s:=s) (a:=a) (k:=k)
 have h0:=Gq (s:=s) (a:=a) (k:=k)
 constructor <;> omega
theorem KD {s:State} {a k:Nat} {x:Snap} (hx:(s.snaps.drop (a+1))[k]? = some x) (h:x.set=(s.snaps.getD a (dflt (.nm .snap))).set):dk s a k+1=dk s a (k+1):=by
 unfold dk
 rw [ax hx,List.filter_append,List.length_append]
 simp [h]
theorem JV {s:State} {a k:Nat} {x:Snap} (hx:(s.snaps.drop (a+1))[k]? = some x) (h:¬ x.set=(s.snaps.getD a (dflt (.nm .snap))).set):dk s a k=dk s a (k+1):=by
 unfold dk
 rw [ax hx,List.filter_append,List.length_append]
 rw [show List.filter (fun x:Snap=>decide (x.set=(s.snaps.getD a (dflt (.nm .snap))).set)) [x]=[] by simp only [List.filter_cons,h,decide_false,List.filter_nil]; rfl]
 simp
theorem Dm {s:State} {a:Int} {k:Nat} (h0:0<=a) (ha:a<s.snaps.length) (h:(s.snaps.length:Int)<=a+1+k):decide (dk s a.toNat k<s.keep)=jw s a:=by
 unfold jw
 rw [if_neg (by omega)]
 have e:∀ m:Nat,(s.snaps.length:Int)<=a+1+m->dk s a.toNat m=dk s a.toNat s.snaps.length:=fun m hm=>by
  unfold dk
  rw [List.take_of_length_le (by rw [List.length_drop]; omega),List.take_of_length_le (by rw [List.length_drop]; omega)]
 rw [e k h]
theorem Bn {s:State} {a:Int} (h:a<0\/(s.snaps.length:Int)<=a):false=jw s a:=by unfold jw; rw [if_pos h]
theorem Nn {id:Int} {l:List Snap} {k:Nat} {x y:Snap} (h:¬ x.id=id) (hx:l[k]? = some x) (hy:l[k]? = some y):bf id (l.take k)++[y]=bf id (l.take (k+1)):=by
 rw [hx] at hy; cases hy
 unfold bf; rw [ax hx,List.filter_append]; simp [h]
theorem Of {id:Int} {l:List Snap} {k:Nat} {x:Snap} (hx:l[k]? = some x) (h:x.id=id):bf id (l.take k)=bf id (l.take (k+1)):=by
 unfold bf; rw [ax hx,List.filter_append]; simp [h]
theorem LB {id:Int} {l:List Snap} {k:Nat} (h:(l.length:Int)<=k):bf id (l.take k)=bf id l:=by rw [List.take_of_length_le (by omega)]
theorem KH {id:Int} {l:List Snap} {k:Nat} {x:Snap} (h:(k:Int)<l.length) (hl:l.length*64<=140737488355328):((bf id (l.take k)).length+[x].length)*64<=140737488355328:=by
 have h1:=List.length_filter_le (fun x:Snap=>!decide (x.id=id)) (l.take k)
 rw [List.length_take] at h1
 unfold bf
 simp only [List.length_cons,List.length_nil]
 omega
def Im (st:State) (at_:Int):List (Nat × LI):=[(5,{ σ:=Nat,F:=fun k=>([(1,one (.int (at_))),(2,one (.ptr 0 0)),(5,one (.int (dk st at_.toNat k))),(21,one (.fz (.nm .snap) (st.snaps.drop (at_+1).toNat))),(22,one (.int (st.snaps.drop (at_+1).toNat).length)),(23,one (.int k))],[.box 43 (cellsOf (.nm .state) ((st)))]),J:=fun k=>at_.toNat+1+k<=st.snaps.length/\0<=at_,μ:=fun k=>st.snaps.length - k })]
theorem KE (st:State) (at_:Int) (r0:Bool):cw tyT KG (Im st at_) Tryz.f182 [.agg (cellsOf (.nm .state) st),.c (.int (at_))] [] [.c (.bool (.atom (r0)))]=((fun (q8:Int)=>(fun (q7:Nat)=>(fun (q6:den (Sh.nm NT.snap))=>(fun (q5:Int)=>(fun (q4:Prop)=>(fun (q3:Nat)=>(fun (q2:List Snap)=>(fun (q1:Nat)=>(fun (q0:Prop)=>I64 st.version->I64 st.next->I64 st.keep->I64 st.quota->st.sess.length*(32:Nat)<=q7->st.opens.length*(16:Nat)<=q7->q2.length*(64:Nat)<=q7->I64 at_->(at_<q8\/(↑q2.length:Int)<=at_->false=r0)/\(q4/\at_<(↑q2.length:Int)->I64 (at_+q5)/\q8<=at_+q5/\at_+q5<=(↑q2.length:Int)/\∃ (s0:Nat),(fun (q13:Nat)=>(fun (q12:Nat)=>(fun (q11:den (Sh.nm NT.snap))=>(fun (q10:List (den (Sh.nm NT.snap)))=>(fun (q9:Int)=>(at_=at_/\q8=dk st q3 s0/\q10=q10/\(↑q10.length:Int)=q9/\q8=(↑s0:Int)/\q0)/\(q13+s0<=q12/\q4)/\∀ (s:Nat),(fun (q15:Int)=>(fun (q14:Int)=>q13+s<=q12/\q4->((↑s:Int)<q9->q8<=(↑s:Int)/\(↑s:Int)<(↑q10.length:Int)/\∀ (x:Snap),q10[s]? = some x->I64 x.id->I64 x.set->x.chunks.length*(8:Nat)<=q7->x.tag.b.length<=q7->q4/\at_<(↑q2.length:Int)/\(I64 q11.id->I64 q11.set->q11.chunks.length*(8:Nat)<=q7->q11.tag.b.length<=q7->(x.set=q11.set->I64 (q15+q5)/\I64 q14/\∃ (s':Nat),(at_=at_/\q15+q5=dk st q3 s' /\ q10=q10/\q9=q9/\q14=(↑s':Int)/\q0)/\(q13+s' <= q12/\q4)/\q12 - s' < q12 - s)/\(¬x.set=q11.set->I64 q14/\∃ (s':Nat),(at_=at_/\q15=dk st q3 s' /\ q10=q10/\q9=q9/\q14=(↑s':Int)/\q0)/\(q13+s' <= q12/\q4)/\q12 - s' < q12 - s)))/\(q9<=(↑s:Int)->decide (q15<st.keep)=r0)) ((↑s:Int)+q5)) (dk st q3 s)) (↑(List.drop q1 q2).length:Int)) (List.drop q1 q2)) (q2.getD q3 q6)) q2.length) (q3+(1:Nat)))) (st.version=st.version/\st.next=st.next/\st.keep=st.keep/\st.quota=st.quota/\st.sess=st.sess/\st.opens=st.opens/\q2=q2)) (at_+q5).toNat) st.snaps) at_.toNat) (q8<=at_)) (1:Int)) (dflt (Sh.nm NT.snap))) (140737488355328:Nat)) (0:Int)):=by kernel_rfl
theorem Lx (st:State) (at_:Int):Sat Tryz.prog (ai tyT) 182 [.agg (cellsOf (.nm .state) st),.c (.int (at_))] [] ⟨[],[.c (.bool (.atom ((jw st at_))))],none,false⟩:=by
 refine aM xd (Im st at_) Tryz.func182 (by decide) (by kernel_rfl) ?_
 rw [KE]
 iterate 3 ((all_goals (repeat' (first | with_reducible apply bP | with_reducible refine bQ ?_ | intro))); (all_goals try (first | exact cn | exact Md | exact (Bn (by assumption)) | exact (K_ aQ aQ) | exact (Dm aQ aQ (by rw [List.length_drop] at *; omega)) | exact (KD (by rw [show (at_+1).toNat=at_.toNat+1 by omega] at *; assumption) aq) | exact (by have:=‹_<((List.length (List.drop _ _):Nat):Int)›; rw [List.length_drop] at this; omega) | exact (JV (by rw [show (at_+1).toNat=at_.toNat+1 by omega] at *; assumption) aq))); all_goals try first | refine ⟨‹Nat› + 1,?_⟩ | refine ⟨0,?_⟩)
def xN:cd:=(bq 182 (bm (ah (kT (.nm .state)) (ah (kC cI) aK)) aJ fun (st,at_,_) (_)=>⟨[],[.c (.bool (.atom ((jw st at_))))],none,false⟩) KG)
theorem ju:aN Tryz.prog (ai tyT) xN:=(av (au (ab bl (ab (al aw) ak)) aj fun (st,at_,_) (_) _=>Lx st at_ ) xd)
theorem JG {α:Type} {l:List α} {k:Nat} {d:α} (h:(k:Int)<l.length):l.set k (l.getD k d)=l:=by
 have hk:k<l.length:=by omega
 rw [List.getD_eq_getElem?_getD,List.getElem?_eq_getElem hk]; exact List.set_getElem_self hk
def Dt (l:List Snap) (k:Nat):Nat:=((List.range k).filter fun (i:Nat)=>decide (0<uQ ((i:Int)+1) l)).length
def distF (l:List Snap):Nat:=Dt l 64
def DN (st:State):List (Nat × LI):=[(5,{ σ:=Nat,F:=fun k=>([(1,one (.ptr 0 0)),(2,one (.ptr 1 0)),(18,one (.int st.snaps.length)),(19,one (.int k))],[.box 43 ([.int ((st.version)),.int ((st.next)),.int ((st.keep)),.int ((st.quota)),.own 2,.own 3,.own 4]),.box 43 ([.int ((0)),.int ((0)),.int ((0)),.int ((0)),.em true,.em true,.em true]),.row 82 (.nm .sess) ((st.sess)),.row 63 (.nm .opn) ((st.opens)),.row 73 (.nm .snap) ((st.snaps))]),J:=fun k=>k<=st.snaps.length,μ:=fun k=>st.snaps.length - k })]
theorem Ki (st:State) (v:Int) (r0:Int):cw tyT xN [] Tryz.f98 [.agg (cellsOf (.nm .state) st),.c (.int (v))] [] [.c (.int (r0))]=((fun (q12:Int)=>(fun (q11:Bool)=>(fun (q10:Bool)=>(fun (q9:Int)=>(fun (q8:Int)=>(fun (q7:Int)=>(fun (q6:Int)=>(fun (q5:Int)=>(fun (q4:Int)=>(fun (q3:Prop)=>(fun (q2:Prop)=>(fun (q1:Prop)=>(fun (q0:Prop)=>I64 st.version->I64 q12->I64 st.keep->I64 q8->st.sess.length*(32:Nat)<=(140737488355328:Nat)->st.opens.length*(16:Nat)<=(140737488355328:Nat)->st.snaps.length*(64:Nat)<=(140737488355328:Nat)->I64 v->(cE v q6 q9=false->q6=r0)/\(cE v q6 q9=true->(v<q9->q5<=q7/\q5<=q7/\(((q0/\cE q8 q4 q4=true)/\q1)/\q2->q6<=q12/\q12<=q7)/\((((q3\/cE q8 q4 q4=false)\/aE Sess.client q5 q4 st.sess=false\/q11=false)\/aE Opn.set q5 q4 st.opens=false\/q10=false)\/eW st v=false->(6:Int)=r0)/\((((q0/\cE q8 q4 q4=true)/\q1)/\q2)/\eW st v=true->q4=r0))/\(q9<=v->q5<=q7/\q5<=q7/\(((q0/\cE q8 q4 (64:Int)=true)/\q1)/\q2->q6<=q12/\q12<=q7)/\((((q3\/cE q8 q4 (64:Int)=false)\/aE Sess.client q5 q4 st.sess=false\/q11=false)\/aE Opn.set q5 q4 st.opens=false\/q10=false)\/eW st v=false->(6:Int)=r0)/\((((q0/\cE q8 q4 (64:Int)=true)/\q1)/\q2)/\eW st v=true->q4=r0)))) ((cE st.version q6 q9=true/\cE q12 q6 q7=true)/\cE st.keep q4 q5=true)) (aE Sess.client q5 q4 st.sess=true/\q11=true)) (aE Opn.set q5 q4 st.opens=true/\q10=true)) ((cE st.version q6 q9=false\/cE q12 q6 q7=false)\/cE st.keep q4 q5=false)) (0:Int)) (8:Int)) (1:Int)) (1048576:Int)) st.quota) (3:Int)) (st.opens.all dr)) (st.sess.all dj)) st.next):=by kernel_rfl
theorem JX (st:State) (v:Int):Sat Tryz.prog (ai tyT) 98 [.agg (cellsOf (.nm .state) st),.c (.int (v))] [] ⟨[],[.c (.int ((mayF st v)))],none,false⟩:=by
 refine aM ju [] Tryz.func98 (by decide) (by kernel_rfl) ?_
 rw [Ki]
 (repeat' (first | with_reducible apply bP | with_reducible refine bQ ?_ | intro))
 all_goals (first | exact cn | exact (Aj (a:=1) (b:=1048576) aq).1 | exact (Aj (a:=1) (b:=1048576) aq).2 | (simp only [mayF,hP,tj,qi]; grind))
theorem FC (c:Command) (v:Int) (r0:Int):cw tyT xN [] Tryz.f24 [.agg (cellsOf (.nm .command) c),.c (.int (v))] [] [.c (.int (r0))]=((fun (q0:Int)=>I64 c.kind->I64 c.client->I64 c.seq->I64 c.set->I64 c.id->I64 c.n->c.chunks.length*(8:Nat)<=(140737488355328:Nat)->c.text.b.length<=(140737488355328:Nat)->I64 v->I64 q0->(bV v=false\/q0=(0:Int)->(1:Int)=r0)/\(bV v=true/\¬q0=(0:Int)->(v<q0->(10:Int)=r0)/\(q0<=v->(lJ c=false->(1:Int)=r0)/\(lJ c=true->(0:Int)=r0)))) (bD c.kind)):=by kernel_rfl
theorem GY (c:Command) (v:Int):Sat Tryz.prog (ai tyT) 24 [.agg (cellsOf (.nm .command) c),.c (.int (v))] [] ⟨[],[.c (.int ((b_ c v)))],none,false⟩:=by
 refine aM ju [] Tryz.func24 (by decide) (by kernel_rfl) ?_
 rw [FC]
 rw [show bV v=cE v 1 3 from rfl]
 (repeat' (first | with_reducible apply bP | with_reducible refine bQ ?_ | intro))
 all_goals (first | exact cn | (simp only [b_]; grind))
theorem GP (st:State) (r0:Int) (r1:Int) (r2:Int) (r3:Int) (r4:List Sess) (r5:List Opn) (r6:List Snap):n_ tyT xN (DN st) Tryz.f32 [.agg (cellsOf (.nm .state) st)] [] [.agg ([.int (r0),.int (r1),.int (r2),.int (r3),.own 0,.own 1,.own 2])] [.row 82 (.nm .sess) (r4),.row 63 (.nm .opn) (r5),.row 73 (.nm .snap) (r6)]=((fun (q4:Int)=>(fun (q3:Nat)=>(fun (q2:den (Sh.nm NT.snap))=>(fun (q1:Prop)=>(fun (q0:List Snap)=>I64 q4->I64 st.next->I64 st.keep->I64 st.quota->st.sess.length*(32:Nat)<=q3->st.opens.length*(16:Nat)<=q3->q0.length*(64:Nat)<=q3->∃ (s0:Nat),(fun (q5:Nat)=>((↑q0.length:Int)=(↑q5:Int)/\(0:Int)=(↑s0:Int)/\q4=q4/\st.next=st.next/\st.keep=st.keep/\st.quota=st.quota/\q1/\q1/\q1/\q1/\st.sess=st.sess/\st.opens=st.opens/\q0=q0)/\s0<=q5/\∀ (s:Nat),(fun (q7:den (Sh.nm NT.snap))=>(fun (q6:Prop)=>s<=q5->((↑s:Int)<(↑q5:Int)->(0:Int)<=(↑s:Int)/\(↑s:Int)<(↑q0.length:Int)/\(0:Int)<=(↑s:Int)/\(↑s:Int)<(↑q0.length:Int)/\(I64 q7.id->I64 q7.set->q6->q7.tag.b.length<=q3->q6->I64 q7.id->I64 q7.set->q6->q7.tag.b.length<=q3->I64 ((↑s:Int)+(1:Int))/\∃ (s':Nat),((↑q5:Int)=(↑q5:Int)/\(↑s:Int)+(1:Int)=(↑s':Int)/\q4=q4/\st.next=st.next/\st.keep=st.keep/\st.quota=st.quota/\q1/\q1/\q1/\q1/\st.sess=st.sess/\st.opens=st.opens/\q0.set s q7=q0)/\s' <= q5/\q5 - s' < q5 - s))/\((↑q5:Int)<=(↑s:Int)->q4=r0/\st.next=r1/\st.keep=r2/\st.quota=r3/\st.sess=r4/\st.opens=r5/\q0=r6)) (q7.chunks.length*(8:Nat)<=q3)) (q0.getD s q2)) q0.length) st.snaps) ((0:Int)=(0:Int))) (dflt (Sh.nm NT.snap))) (140737488355328:Nat)) st.version):=by kernel_rfl
theorem FU (st:State):Sat Tryz.prog (ai tyT) 32 [.agg (cellsOf (.nm .state) st)] [] ⟨[],[.agg ([.int ((st.version)),.int ((st.next)),.int ((st.keep)),.int ((st.quota)),.own 0,.own 1,.own 2])],some ([.row 82 (.nm .sess) ((st.sess)),.row 63 (.nm .opn) ((st.opens)),.row 73 (.nm .snap) ((st.snaps))]),true⟩:=by
 refine dO ju (DN st) Tryz.func32 (by decide) (by kernel_rfl) ?_
 rw [GP]
 iterate 3 ((all_goals (repeat' (first | with_reducible apply bP | with_reducible refine bQ ?_ | intro))); (all_goals try (first | exact cn | exact rfl | exact (JG aQ))); all_goals try first | refine ⟨‹Nat› + 1,?_⟩ | refine ⟨0,?_⟩)
theorem HO (x:Snap) (y:Snap) (r0:Bool):cw tyT xN [] Tryz.f71 [.agg (cellsOf (.nm .snap) x),.agg (cellsOf (.nm .snap) y)] [] [.c (.bool (.atom (r0)))]=(I64 x.id->I64 x.set->x.chunks.length*(8:Nat)<=(140737488355328:Nat)->x.tag.b.length<=(140737488355328:Nat)->I64 y.id->I64 y.set->y.chunks.length*(8:Nat)<=(140737488355328:Nat)->y.tag.b.length<=(140737488355328:Nat)->(decide (x.chunks=y.chunks) && decide (x.id=y.id) && decide (x.set=y.set) && x.held == y.held && decide (x.tag=y.tag))=r0):=by kernel_rfl
theorem GN (x:Snap) (y:Snap):Sat Tryz.prog (ai tyT) 71 [.agg (cellsOf (.nm .snap) x),.agg (cellsOf (.nm .snap) y)] [] ⟨[],[.c (.bool (.atom ((decide (x=y)))))],none,false⟩:=by
 refine aM ju [] Tryz.func71 (by decide) (by kernel_rfl) ?_
 rw [HO]
 intros; cases x; cases y; simp only [Snap.mk.injEq]; grind
def rK:cd:=(bq 71 (bm (ah (kT (.nm .snap)) (ah (kT (.nm .snap)) aK)) aJ fun (x,y,_) (_)=>⟨[],[.c (.bool (.atom ((decide (x=y)))))],none,false⟩) (bq 32 (bm (ah (kT (.nm .state)) aK) aJ fun (st,_) (_)=>⟨[],[.agg ([.int ((st.version)),.int ((st.next)),.int ((st.keep)),.int ((st.quota)),.own 0,.own 1,.own 2])],some ([.row 82 (.nm .sess) ((st.sess)),.row 63 (.nm .opn) ((st.opens)),.row 73 (.nm .snap) ((st.snaps))]),true⟩) (bq 24 (bm (ah (kT (.nm .command)) (ah (kC cI) aK)) aJ fun (c,v,_) (_)=>⟨[],[.c (.int ((b_ c v)))],none,false⟩) (bq 98 (bm (ah (kT (.nm .state)) (ah (kC cI) aK)) aJ fun (st,v,_) (_)=>⟨[],[.c (.int ((mayF st v)))],none,false⟩) xN))))
theorem jl:aN Tryz.prog (ai tyT) rK:=(av (au (ab bl (ab bl ak)) aj fun (x,y,_) (_) _=>GN x y ) (av (au (ab bl ak) aj fun (st,_) (_) _=>FU st ) (av (au (ab bl (ab (al aw) ak)) aj fun (c,v,_) (_) _=>GY c v ) (av (au (ab bl (ab (al aw) ak)) aj fun (st,v,_) (_) _=>JX st v ) ju))))
def dR (s:State):State:={ s with sess:=s.sess.take 20,opens:=s.opens.take 20,snaps:=(s.snaps.take 20).map fun x=>{ x with chunks:=x.chunks.take 12,tag:=x.tag.cut 0 40 } }
def xl (l:List Snap) (id:Int) (k:Nat):List Int:=((List.range k).filter fun (i:Nat)=>decide (0<uQ ((i:Int)+1) l) && decide (uQ ((i:Int)+1) (bf id l)=0)).map fun (i:Nat)=>(i:Int)+1
def cX (xs:List Int) (l:List Int):List Int:=l.foldl (fun xs n=>if 1<=n/\n<=64 then xs.set n.toNat (xs.getD n.toNat 0+1) else xs) xs
theorem Nv {a b:List Snap} {k:Nat} (h:a.take k=b.take k) (e:decide (a.getD k (dflt (.nm .snap))=b.getD k (dflt (.nm .snap)))=true) (hk:(k:Int)<a.length) (hb:(k:Int)<b.length):a.take (k+1)=b.take (k+1):=sX h (by omega) (by omega) (of_decide_eq_true e)
theorem Nb {a b:List Snap} {k:Nat} (e:decide (a.getD k (dflt (.nm .snap))=b.getD k (dflt (.nm .snap)))=false) (_:(k:Int)<a.length) (_:(k:Int)<b.length):false=decide (a=b):=by
 symm; apply decide_eq_false; rintro rfl; simp at e
theorem La {l:List Snap} {id:Int} (h:nch l<=1048576):nch (bf id l)<=1048576:=by
 refine Nat.le_trans ?_ h
 unfold nch bf
 induction l with
 | nil=>exact Nat.le_refl _
 | cons x l ih=>
  have hl:(l.flatMap Snap.chunks).length<=1048576:=by unfold nch at h; rw [List.flatMap_cons,List.length_append] at h; omega
  have:=ih hl
  rw [List.filter_cons,List.flatMap_cons,List.length_append]
  split
  ·rw [List.flatMap_cons,List.length_append]; omega
  ·omega
def jf (l:List Snap) (id:Int):List Int:=xl l id 64
theorem xa {st:State} {k:Nat} {x:Snap} (hx:st.snaps[k]? = some x) (h:(k:Int)<20):(dR st).snaps[k]? = some { x with chunks:=x.chunks.take 12,tag:=x.tag.cut 0 40 }:=by
 show (List.map _ (st.snaps.take 20))[k]? = _
 rw [List.getElem?_map,List.getElem?_take_of_lt (by omega),hx]; rfl
theorem Qu {st:State} {k:Nat} {x:Snap} (hx:st.snaps[k]? = some x) (h:(k:Int)<20) (_:12<(x.chunks.length:Int)) (_:40<(x.tag.b.length:Int)):(dR st).snaps.take k++[Snap.mk x.id x.set (x.chunks.take 12) x.held ⟨x.tag.b.take 40⟩]=(dR st).snaps.take (k+1):=by
 rw [ax (xa hx h)]; rfl
theorem Ri {st:State} {k:Nat} {x:Snap} (hx:st.snaps[k]? = some x) (h:(k:Int)<20) (_:12<(x.chunks.length:Int)) (h2:(x.tag.b.length:Int)<=40):(dR st).snaps.take k++[Snap.mk x.id x.set (x.chunks.take 12) x.held x.tag]=(dR st).snaps.take (k+1):=by
 rw [ax (xa hx h),show x.tag.cut 0 40=x.tag from (sR h2).symm]
theorem Qm {st:State} {k:Nat} {x:Snap} (hx:st.snaps[k]? = some x) (h:(k:Int)<20) (h1:(x.chunks.length:Int)<=12) (_:40<(x.tag.b.length:Int)):(dR st).snaps.take k++[Snap.mk x.id x.set x.chunks x.held ⟨x.tag.b.take 40⟩]=(dR st).snaps.take (k+1):=by
 rw [ax (xa hx h),show x.chunks.take 12=x.chunks from List.take_of_length_le (by omega)]; rfl
theorem RB {st:State} {k:Nat} {x:Snap} (hx:st.snaps[k]? = some x) (h:(k:Int)<20) (h1:(x.chunks.length:Int)<=12) (h2:(x.tag.b.length:Int)<=40):(dR st).snaps.take k++[x]=(dR st).snaps.take (k+1):=by
 rw [ax (xa hx h),show x.chunks.take 12=x.chunks from List.take_of_length_le (by omega),show x.tag.cut 0 40=x.tag from (sR h2).symm]
theorem NQ {st:State}:(dR st).snaps.length=min 20 st.snaps.length:=by
 show (List.map _ (st.snaps.take 20)).length=_
 rw [List.length_map,List.length_take]
theorem Jl {st:State} {k:Nat} {y:Snap} (h:(k:Int)<20):(((dR st).snaps.take k).length+[y].length)*64<=140737488355328:=by
 rw [List.length_take]; simp only [List.length_cons,List.length_nil]; omega
theorem OH {st:State} {k:Nat} (h:(k:Int)<20) (h2:(k:Int)<st.snaps.length):k+1<=(dR st).snaps.length:=by rw [NQ]; omega
theorem Ow {st:State} {k:Nat} (h:(st.snaps.length:Int)<=k\/20<=(k:Int)):(dR st).snaps.length<=k:=by rw [NQ]; omega
def ox (xs l:List Int):Prop:=∀ i,0<=xs.getD i 0/\xs.getD i 0+l.length<=4611686018427387904
theorem sG {xs:List Int} {i j:Nat} {v:Int}:(xs.set j v).getD i 0=if j=i/\j<xs.length then v else xs.getD i 0:=by
 rw [List.getD_eq_getElem?_getD,List.getElem?_set,List.getD_eq_getElem?_getD]
 by_cases h:j=i
 ·subst h
  by_cases h2:j<xs.length
  ·simp [h2]
  ·simp [h2]
 ·simp [h]
theorem vi:∀ (l xs:List Int) (i:Nat),xs.getD i 0<=(cX xs l).getD i 0/\(cX xs l).getD i 0<=xs.getD i 0+l.length
 | [],xs,i=>by simp [cX]
 | n :: l,xs,i=>by
  have h:=vi l (if 1<=n/\n<=64 then xs.set n.toNat (xs.getD n.toNat 0+1) else xs) i
  have e:cX xs (n :: l)=cX (if 1<=n/\n<=64 then xs.set n.toNat (xs.getD n.toNat 0+1) else xs) l:=rfl
  rw [e]
  have h2:xs.getD i 0<=(if 1<=n/\n<=64 then xs.set n.toNat (xs.getD n.toNat 0+1) else xs).getD i 0/\(if 1<=n/\n<=64 then xs.set n.toNat (xs.getD n.toNat 0+1) else xs).getD i 0<=xs.getD i 0+1:=by
   split
   ·rw [sG]; split
    ·rename_i h3; rw [h3.1]; omega
    ·omega
   ·omega
  rw [List.length_cons]; omega
theorem rW {xs l:List Int} {k:Nat} {n:Int} (hx:l[k]? = some n):cX xs (l.take (k+1))=if 1<=n/\n<=64 then (cX xs (l.take k)).set n.toNat ((cX xs (l.take k)).getD n.toNat 0+1) else cX xs (l.take k):=by
 rw [ax hx,cX,List.foldl_append]; rfl
theorem OM {xs l:List Int} {k:Nat} {n:Int} (hx:l[k]? = some n) (h:1<=n/\n<=64):(cX xs (l.take k)).set n.toNat ((cX xs (l.take k)).getD n.toNat (dflt .int)+1)=cX xs (l.take (k+1)):=by rw [rW hx,if_pos h]; rfl
theorem MY {xs l:List Int} {k:Nat} {n:Int} (hx:l[k]? = some n) (h:¬ (1<=n/\n<=64)):cX xs (l.take k)=cX xs (l.take (k+1)):=by rw [rW hx,if_neg h]
theorem NO {xs l:List Int} {k:Nat} {n:Int} (h:ox xs l):I64 ((cX xs (l.take k)).getD n.toNat (dflt .int)+1):=by
 have h1:=vi (l.take k) xs n.toNat
 have h2:=h n.toNat
 rw [List.length_take] at h1
 show I64 ((cX xs (l.take k)).getD n.toNat 0+1)
 constructor <;> omega
def pa (a:List Snap) (b:List Snap):List (Nat × LI):=[(4,{ σ:=Nat,F:=fun k=>([(0,one (.fz (.nm .snap) (a))),(1,one (.fz (.nm .snap) (b))),(5,one (.int k))],[]),J:=fun k=>k<=a.length/\a.length=b.length/\a.take k=b.take k,μ:=fun k=>a.length - k })]
def Oe (l:List Int) (xs:List Int):List (Nat × LI):=[(1,{ σ:=Nat,F:=fun k=>([(0,one (.ptr 0 0)),(6,one (.fz .int (l))),(7,one (.int (l).length)),(8,one (.int k))],[.arr 201 .int 65 ((cX xs (l.take k)))]),J:=fun k=>k<=l.length,μ:=fun k=>(l).length - k })]
theorem Jw (st:State) (c:Command) (r0:Int):cw tyT rK [] Tryz.f61 [.agg (cellsOf (.nm .state) st),.agg (cellsOf (.nm .command) c)] [] [.c (.int (r0))]=((fun (q0:Int)=>I64 q0->I64 st.next->I64 st.keep->I64 st.quota->st.sess.length*(32:Nat)<=(140737488355328:Nat)->st.opens.length*(16:Nat)<=(140737488355328:Nat)->st.snaps.length*(64:Nat)<=(140737488355328:Nat)->I64 c.kind->I64 c.client->I64 c.seq->I64 c.set->I64 c.id->I64 c.n->c.chunks.length*(8:Nat)<=(140737488355328:Nat)->c.text.b.length<=(140737488355328:Nat)->I64 (mayF st q0)->(¬mayF st q0=(0:Int)->(1:Int)=r0)/\(mayF st q0=(0:Int)->I64 (b_ c q0)->b_ c q0=r0)) st.version):=by kernel_rfl
theorem Lr (st:State) (c:Command):Sat Tryz.prog (ai tyT) 61 [.agg (cellsOf (.nm .state) st),.agg (cellsOf (.nm .command) c)] [] ⟨[],[.c (.int ((if mayF st st.version=0 then b_ c st.version else 1)))],none,false⟩:=by
 refine aM jl [] Tryz.func61 (by decide) (by kernel_rfl) ?_
 rw [Jw]
 grind
theorem tT (a:List Snap) (b:List Snap) (r0:Bool):cw tyT rK (pa a b) Tryz.f37 [.c (.fz (.nm .snap) (a)),.c (.fz (.nm .snap) (b))] [] [.c (.bool (.atom (r0)))]=((fun (q3:Nat)=>(fun (q2:Nat)=>(fun (q1:Int)=>(fun (q0:den (Sh.nm NT.snap))=>a.length*(64:Nat)<=q3->b.length*(64:Nat)<=q3->(¬q1=(↑b.length:Int)->false=r0)/\(q1=(↑b.length:Int)->∃ (s0:Nat),(a=a/\b=b/\(0:Int)=(↑s0:Int))/\(s0<=q2/\q2=b.length/\List.take s0 a=List.take s0 b)/\∀ (s:Nat),(fun (q5:den (Sh.nm NT.snap))=>(fun (q4:den (Sh.nm NT.snap))=>s<=q2/\q2=b.length/\List.take s a=List.take s b->((↑s:Int)<q1->(0:Int)<=(↑s:Int)/\(↑s:Int)<q1/\(0:Int)<=(↑s:Int)/\(↑s:Int)<(↑b.length:Int)/\(I64 q4.id->I64 q4.set->q4.chunks.length*(8:Nat)<=q3->q4.tag.b.length<=q3->I64 q5.id->I64 q5.set->q5.chunks.length*(8:Nat)<=q3->q5.tag.b.length<=q3->(decide (q4=q5)=false->false=r0)/\(decide (q4=q5)=true->I64 ((↑s:Int)+(1:Int))/\∃ (s':Nat),(a=a/\b=b/\(↑s:Int)+(1:Int)=(↑s':Int))/\(s' <= q2/\q2=b.length/\List.take s' a=List.take s' b)/\q2 - s' < q2 - s)))/\(q1<=(↑s:Int)->true=r0)) (a.getD s q0)) (b.getD s q0))) (dflt (Sh.nm NT.snap))) (↑a.length:Int)) a.length) (140737488355328:Nat)):=by kernel_rfl
theorem uL (a:List Snap) (b:List Snap):Sat Tryz.prog (ai tyT) 37 [.c (.fz (.nm .snap) (a)),.c (.fz (.nm .snap) (b))] [] ⟨[],[.c (.bool (.atom ((decide (a=b)))))],none,false⟩:=by
 refine aM jl (pa a b) Tryz.func37 (by decide) (by kernel_rfl) ?_
 rw [tT]
 iterate 3 ((all_goals (repeat' (first | with_reducible apply bP | with_reducible refine bQ ?_ | intro))); (all_goals try (first | exact cn | exact rfl | exact (Ee aq) | exact (Nv aq aq aq aQ) | exact (Nb aq aQ aQ) | exact (sm aQ aq aQ))); all_goals try first | refine ⟨‹Nat› + 1,?_⟩ | refine ⟨0,?_⟩)
theorem Nu (l:List Int) (xs:List Int) (r0:List Int):lS tyT rK (Oe l xs) Tryz.f188 [.c (.ptr 0 0),.c (.fz .int (l))] [.arr 201 .int 65 (xs)] [] [.arr 201 .int 65 (r0)]=((fun (q1:Int)=>(fun (q0:Nat)=>l.length*(8:Nat)<=(140737488355328:Nat)->∃ (s0:Nat),(fun (q2:Int)=>(l=l/\(↑l.length:Int)=q2/\(0:Int)=(↑s0:Int)/\xs=cX xs (List.take s0 l))/\s0<=q0/\∀ (s:Nat),(fun (q4:Int)=>(fun (q3:List Int)=>s<=q0->((↑s:Int)<q2->(0:Int)<=(↑s:Int)/\(↑s:Int)<(↑l.length:Int)/\∀ (x:Int),(fun (q5:den Sh.int)=>l[s]? = some x->I64 x->(q1<=x/\x<=(64:Int)->(0:Int)<=x/\x<(↑(65:Nat):Int)/\x.toNat<(65:Nat)/\I64 (q5+q1)/\(0:Int)<=x/\x<(↑(65:Nat):Int)/\(I64 q5->x.toNat<(65:Nat)/\I64 q4/\∃ (s':Nat),(l=l/\q2=q2/\q4=(↑s':Int)/\q3.set x.toNat (q5+q1)=cX xs (List.take s' l))/\s' <= q0/\q0 - s' < q0 - s))/\(x<q1\/(64:Int)<x->I64 q4/\∃ (s':Nat),(l=l/\q2=q2/\q4=(↑s':Int)/\q3=cX xs (List.take s' l))/\s' <= q0/\q0 - s' < q0 - s)) (q3.getD x.toNat (dflt Sh.int)))/\(q2<=(↑s:Int)->q3=r0)) (cX xs (List.take s l))) ((↑s:Int)+q1)) (↑q0:Int)) l.length) (1:Int)):=by kernel_rfl
theorem NU (l:List Int) (xs:List Int) (h0:ox xs l):Sat Tryz.prog (ai tyT) 188 [.c (.ptr 0 0),.c (.fz .int (l))] [.arr 201 .int 65 (xs)] ⟨[ox xs l],[],some ([.arr 201 .int 65 ((cX xs l))]),false⟩:=by
 refine cZ jl (Oe l xs) Tryz.func188 (by decide) (by kernel_rfl) ?_
 rw [Nu]
 iterate 3 ((all_goals (repeat' (first | with_reducible apply bP | with_reducible refine bQ ?_ | intro))); (all_goals try (first | exact cn | exact rfl | exact (OM aq (by constructor <;> omega)) | exact (MY aq aQ) | exact (by rw [List.take_of_length_le aQ]) | exact (NO aq))); all_goals try first | refine ⟨‹Nat› + 1,?_⟩ | refine ⟨0,?_⟩)
def HT:cd:=(bq 188 (bm (ah (kC (bJ 0 0)) (ah (kC (cL .int)) aK)) (az (qe 201 .int 65) aJ) fun (_,l,_) (xs,_)=>⟨[ox xs l],[],some ([.arr 201 .int 65 ((cX xs l))]),false⟩) (bq 37 (bm (ah (kC (cL (.nm .snap))) (ah (kC (cL (.nm .snap))) aK)) aJ fun (a,b,_) (_)=>⟨[],[.c (.bool (.atom ((decide (a=b)))))],none,false⟩) (bq 61 (bm (ah (kT (.nm .state)) (ah (kT (.nm .command)) aK)) aJ fun (st,c,_) (_)=>⟨[],[.c (.int ((if mayF st st.version=0 then b_ c st.version else 1)))],none,false⟩) rK)))
theorem DX:aN Tryz.prog (ai tyT) HT:=(av (au (ab (al aI) (ab (al bb) ak)) (ag gp aj) fun (_,l,_) (xs,_) hp=>NU l xs (dB hp)) (av (au (ab (al bb) (ab (al bb) ak)) aj fun (a,b,_) (_) _=>uL a b ) (av (au (ab bl (ab bl ak)) aj fun (st,c,_) (_) _=>Lr st c ) jl)))
section
variable {B:Bool} {k:Nat}
variable {st:State} {v:Int}
end
def Bx:cd:=HT
theorem qW:aN Tryz.prog (ai tyT) Bx:=DX
theorem Qx {a b:State} (h:((((¬ a.version=b.version\/¬ a.next=b.next)\/¬ a.keep=b.keep)\/¬ a.quota=b.quota)\/¬ ((a.sess.length:Nat):Int)=(b.sess.length:Nat))\/¬ ((a.opens.length:Nat):Int)=(b.opens.length:Nat)):false=decide (a=b):=by
 symm; apply decide_eq_false; rintro rfl; simp at h
theorem PZ {a b:State} {s:Nat} (h:¬ (a.sess.getD s (dflt (.nm .sess))).client=(b.sess.getD s (dflt (.nm .sess))).client\/¬ (a.sess.getD s (dflt (.nm .sess))).seq=(b.sess.getD s (dflt (.nm .sess))).seq\/¬ (a.sess.getD s (dflt (.nm .sess))).last.code=(b.sess.getD s (dflt (.nm .sess))).last.code\/¬ (a.sess.getD s (dflt (.nm .sess))).last.n=(b.sess.getD s (dflt (.nm .sess))).last.n):false=decide (a=b):=by
 symm; apply decide_eq_false; rintro rfl; simp at h
theorem Qw {a b:State} {s:Nat} (h:¬ (a.opens.getD s (dflt (.nm .opn))).set=(b.opens.getD s (dflt (.nm .opn))).set\/¬ (a.opens.getD s (dflt (.nm .opn))).client=(b.opens.getD s (dflt (.nm .opn))).client):false=decide (a=b):=by
 symm; apply decide_eq_false; rintro rfl; simp at h
theorem Gj {x y:Sess} (h1:x.client=y.client) (h2:x.seq=y.seq) (h3:x.last.code=y.last.code) (h4:x.last.n=y.last.n):x=y:=by
 obtain ⟨a,b,⟨c,d⟩⟩:=x; obtain ⟨a',b',⟨c',d'⟩⟩:=y; simp_all
theorem Jc {x y:Opn} (h1:x.set=y.set) (h2:x.client=y.client):x=y:=by cases x; cases y; simp_all
theorem Mx {a b:List Sess} {s:Nat} (h:a.take s=b.take s) (h1:(a.getD s (dflt (.nm .sess))).client=(b.getD s (dflt (.nm .sess))).client) (h2:(a.getD s (dflt (.nm .sess))).seq=(b.getD s (dflt (.nm .sess))).seq) (h3:(a.getD s (dflt (.nm .sess))).last.code=(b.getD s (dflt (.nm .sess))).last.code) (h4:(a.getD s (dflt (.nm .sess))).last.n=(b.getD s (dflt (.nm .sess))).last.n) (ha:s<a.length) (hb:s<b.length):a.take (s+1)=b.take (s+1):=sX h ha hb (Gj h1 h2 h3 h4)
theorem MM {a b:List Opn} {s:Nat} (h:a.take s=b.take s) (h1:(a.getD s (dflt (.nm .opn))).set=(b.getD s (dflt (.nm .opn))).set) (h2:(a.getD s (dflt (.nm .opn))).client=(b.getD s (dflt (.nm .opn))).client) (ha:s<a.length) (hb:s<b.length):a.take (s+1)=b.take (s+1):=sX h ha hb (Jc h1 h2)
theorem Qo {a b:State} {s q:Nat} (h1:a.version=b.version) (h2:a.next=b.next) (h3:a.keep=b.keep) (h4:a.quota=b.quota) (h5:a.sess.take s=b.sess.take s) (h6:a.opens.take q=b.opens.take q) (ha:a.sess.length<=s) (hb:b.sess.length<=s) (hc:a.opens.length<=q) (hd:b.opens.length<=q):decide (a.snaps=b.snaps)=decide (a=b):=by
 rw [List.take_of_length_le ha,List.take_of_length_le hb] at h5
 rw [List.take_of_length_le hc,List.take_of_length_le hd] at h6
 cases a; cases b; simp_all
def DU (a:State) (b:State):List (Nat × LI):=[(4,{ σ:=Nat,F:=fun k=>([(2,one (.ptr 0 0)),(3,one (.ptr 1 0)),(5,one (.int k))],[.box 43 (cellsOf (.nm .state) ((a))),.box 43 (cellsOf (.nm .state) ((b)))]),J:=fun k=>k<=a.sess.length/\a.sess.take k=b.sess.take k,μ:=fun k=>a.sess.length - k }),(9,{ σ:=Nat,F:=fun k=>([(2,one (.ptr 0 0)),(3,one (.ptr 1 0)),(6,one (.int k))],[.box 43 (cellsOf (.nm .state) ((a))),.box 43 (cellsOf (.nm .state) ((b)))]),J:=fun k=>k<=a.opens.length/\a.opens.take k=b.opens.take k,μ:=fun k=>a.opens.length - k })]
theorem Ht (a:State) (b:State) (r0:Bool):cw tyT Bx (DU a b) Tryz.f18 [.agg (cellsOf (.nm .state) a),.agg (cellsOf (.nm .state) b)] [] [.c (.bool (.atom (r0)))]=((fun (q8:Nat)=>(fun (q7:Int)=>(fun (q6:List Opn)=>(fun (q5:List Sess)=>(fun (q4:den (Sh.nm NT.opn))=>(fun (q3:List Opn)=>(fun (q2:List Sess)=>(fun (q1:den (Sh.nm NT.sess))=>(fun (q0:Prop)=>I64 a.version->I64 a.next->I64 a.keep->I64 a.quota->q2.length*(32:Nat)<=q8->q3.length*(16:Nat)<=q8->a.snaps.length*(64:Nat)<=q8->I64 b.version->I64 b.next->I64 b.keep->I64 b.quota->q5.length*(32:Nat)<=q8->q6.length*(16:Nat)<=q8->b.snaps.length*(64:Nat)<=q8->(((((¬a.version=b.version\/¬a.next=b.next)\/¬a.keep=b.keep)\/¬a.quota=b.quota)\/¬(↑q2.length:Int)=(↑q5.length:Int))\/¬(↑q3.length:Int)=(↑q6.length:Int)->false=r0)/\(((((a.version=b.version/\a.next=b.next)/\a.keep=b.keep)/\a.quota=b.quota)/\(↑q2.length:Int)=(↑q5.length:Int))/\(↑q3.length:Int)=(↑q6.length:Int)->∃ (s0:Nat),(q7=(↑s0:Int)/\q0)/\(s0<=q2.length/\List.take s0 q2=List.take s0 q5)/\∀ (s:Nat),(fun (q10:den (Sh.nm NT.sess))=>(fun (q9:den (Sh.nm NT.sess))=>s<=q2.length/\List.take s q2=List.take s q5->((↑s:Int)<(↑q2.length:Int)->q7<=(↑s:Int)/\(↑s:Int)<(↑q2.length:Int)/\q7<=(↑s:Int)/\(↑s:Int)<(↑q5.length:Int)/\(I64 q10.client->I64 q10.seq->I64 q10.last.code->I64 q10.last.n->I64 q9.client->I64 q9.seq->I64 q9.last.code->I64 q9.last.n->(¬q10.client=q9.client\/¬q10.seq=q9.seq\/¬q10.last.code=q9.last.code\/¬q10.last.n=q9.last.n->false=r0)/\(q10.client=q9.client/\q10.seq=q9.seq/\q10.last.code=q9.last.code/\q10.last.n=q9.last.n->I64 ((↑s:Int)+(1:Int))/\∃ (s':Nat),((↑s:Int)+(1:Int)=(↑s':Int)/\q0)/\(s' <= q2.length/\List.take s' q2=List.take s' q5)/\q2.length - s' < q2.length - s)))/\((↑q2.length:Int)<=(↑s:Int)->∃ (s0:Nat),(q7=(↑s0:Int)/\q0)/\(s0<=q3.length/\List.take s0 q3=List.take s0 q6)/\∀ (s:Nat),(fun (q12:den (Sh.nm NT.opn))=>(fun (q11:den (Sh.nm NT.opn))=>s<=q3.length/\List.take s q3=List.take s q6->((↑s:Int)<(↑q3.length:Int)->q7<=(↑s:Int)/\(↑s:Int)<(↑q3.length:Int)/\q7<=(↑s:Int)/\(↑s:Int)<(↑q6.length:Int)/\(I64 q12.set->I64 q12.client->I64 q11.set->I64 q11.client->(¬q12.set=q11.set\/¬q12.client=q11.client->false=r0)/\(q12.set=q11.set/\q12.client=q11.client->I64 ((↑s:Int)+(1:Int))/\∃ (s':Nat),((↑s:Int)+(1:Int)=(↑s':Int)/\q0)/\(s' <= q3.length/\List.take s' q3=List.take s' q6)/\q3.length - s' < q3.length - s)))/\((↑q3.length:Int)<=(↑s:Int)->decide (a.snaps=b.snaps)=r0)) (q6.getD s q4)) (q3.getD s q4))) (q5.getD s q1)) (q2.getD s q1))) (a.version=a.version/\a.next=a.next/\a.keep=a.keep/\a.quota=a.quota/\q2=q2/\q3=q3/\a.snaps=a.snaps/\b.version=b.version/\b.next=b.next/\b.keep=b.keep/\b.quota=b.quota/\q5=q5/\q6=q6/\b.snaps=b.snaps)) (dflt (Sh.nm NT.sess))) a.sess) a.opens) (dflt (Sh.nm NT.opn))) b.sess) b.opens) (0:Int)) (140737488355328:Nat)):=by kernel_rfl
theorem FR (a:State) (b:State):Sat Tryz.prog (ai tyT) 18 [.agg (cellsOf (.nm .state) a),.agg (cellsOf (.nm .state) b)] [] ⟨[],[.c (.bool (.atom ((decide (a=b)))))],none,false⟩:=by
 refine aM qW (DU a b) Tryz.func18 (by decide) (by kernel_rfl) ?_
 rw [Ht]
 (repeat' (first | with_reducible apply bP | with_reducible refine bQ ?_ | intro))
 all_goals try (refine ⟨0,?_⟩; (repeat' (first | with_reducible apply bP | with_reducible refine bQ ?_ | intro)))
 all_goals try (have hg:(‹Nat›:Int)<(a.sess.length:Int):=aQ; clear hg; refine ⟨‹Nat› + 1,?_⟩; (repeat' (first | with_reducible apply bP | with_reducible refine bQ ?_ | intro)))
 all_goals try (have hg:((a.sess.length:Nat):Int)<=(‹Nat›:Int):=aQ; clear hg; refine ⟨0,?_⟩; (repeat' (first | with_reducible apply bP | with_reducible refine bQ ?_ | intro)))
 all_goals try (refine ⟨‹Nat› + 1,?_⟩; (repeat' (first | with_reducible apply bP | with_reducible refine bQ ?_ | intro)))
 all_goals (first | exact cn | exact rfl | exact (Qx (by assumption)) | exact (PZ (by assumption)) | exact (Qw (by assumption)) | exact (Mx aq aq aq aq aq aQ aQ) | exact (MM aq aq aq aQ aQ) | exact (Qo aq aq aq aq aq aq aQ aQ aQ aQ))
def oY:cd:=(bq 18 (bm (ah (kT (.nm .state)) (ah (kT (.nm .state)) aK)) aJ fun (a,b,_) (_)=>⟨[],[.c (.bool (.atom ((decide (a=b)))))],none,false⟩) Bx)
theorem ig:aN Tryz.prog (ai tyT) oY:=(av (au (ab bl (ab bl ak)) aj fun (a,b,_) (_) _=>FR a b ) qW)
def dL (xs:List Int) (c:Int):Bool:=decide (0<xs.getD c.toNat (dflt .int))
def dF (xs ys:List Int) (c:Int):Bool:=decide (0<xs.getD c.toNat (dflt .int)) && decide (ys.getD c.toNat (dflt .int)=0)
def gF (p:Int->Bool) (k:Nat):List Int:=((List.range k).map fun (i:Nat)=>(i:Int)+1).filter p
theorem Ok {p:Int->Bool} {k:Nat} (h:p ((k:Int)+1)=true):gF p k++[(k:Int)+1]=gF p (k+1):=by
 unfold gF; rw [List.range_succ,List.map_append,List.filter_append]; simp [h]
theorem NK {p:Int->Bool} {k:Nat} (h:p ((k:Int)+1)=false):gF p k=gF p (k+1):=by
 unfold gF; rw [List.range_succ,List.map_append,List.filter_append]; simp [h]
theorem OS {p:Int->Bool} {k:Nat} (h:k<=64) (h2:64<(k:Int)+1):gF p k=gF p 64:=by rw [show k=64 by omega]
theorem Di {p:Int->Bool} {k:Nat} {n:Int} (h:k<=64):((gF p k).length+[n].length)*8<=140737488355328:=by
 have:=List.length_filter_le p ((List.range k).map fun (i:Nat)=>(i:Int)+1)
 rw [List.length_map,List.length_range] at this
 unfold gF; simp only [List.length_cons,List.length_nil]; omega
def bM (l:List Snap):List Int:=l.foldl (fun t x=>cX t x.chunks) (List.replicate 65 0)
theorem m_:∀ (l xs:List Int),(cX xs l).length=xs.length
 | [],_=>rfl
 | n :: l,xs=>by
  show (cX (if 1<=n/\n<=64 then xs.set n.toNat (xs.getD n.toNat 0+1) else xs) l).length=_
  rw [m_ l]; split
  ·rw [List.length_set]
  ·rfl
theorem iq {l:List Snap} {x:Snap}:bM (l++[x])=cX (bM l) x.chunks:=by unfold bM; rw [List.foldl_append]; rfl
theorem KX {l:List Snap} {k:Nat} {x:Snap} (hx:l[k]? = some x):cX (bM (l.take k)) x.chunks=bM (l.take (k+1)):=by rw [ax hx,iq]
theorem pn {p:List Snap->Prop} (h0:p []) (hs:∀ l x,p l->p (l++[x])) (l:List Snap):p l:=by
 have:∀ r:List Snap,p r.reverse:=fun r=>by
  induction r with
  | nil=>exact h0
  | cons x r ih=>rw [List.reverse_cons]; exact hs _ _ ih
 have h:=this l.reverse
 rwa [List.reverse_reverse] at h
theorem gf (l:List Snap):(bM l).length=65:=by
 refine pn (p:=fun l=>(bM l).length=65) rfl (fun l x h=>?_) l
 rw [iq,m_,h]
theorem tz {l:List Snap} {x:Snap}:nch (l++[x])=nch l+x.chunks.length:=by unfold nch; simp
theorem By (l:List Snap) (i:Nat):0<=(bM l).getD i 0/\(bM l).getD i 0<=nch l:=by
 refine pn (p:=fun l=>0<=(bM l).getD i 0/\(bM l).getD i 0<=nch l) ?_ (fun l x h=>?_) l
 ·show 0<=(List.replicate 65 (0:Int)).getD i 0/\(List.replicate 65 (0:Int)).getD i 0<=_
  rw [List.getD_eq_getElem?_getD,List.getElem?_replicate]; split <;> simp
 ·have:=vi x.chunks (bM l) i
  rw [iq,tz]; omega
theorem vF {l:List Snap} {k:Nat} {x:Snap} (hx:l[k]? = some x) (h:nch l<=1048576):ox (bM (l.take k)) x.chunks:=fun i=>by
 have h1:=By (l.take k) i
 have h2:nch (l.take (k+1))<=nch l:=by
  unfold nch; rw [<- List.take_append_drop (k+1) l,List.flatMap_append,List.length_append,List.take_append_drop]; omega
 rw [ax hx,tz] at h2
 omega
theorem wV {l:List Snap} {m:List Int} {s:Sh} (h:nch l<=1048576) (hm:m.length*8<=140737488355328):ox (nh .int (bM l) 0 65) m:=fun i=>by
 rw [gq (gf l)]
 have h1:=By l i
 omega
theorem xb:∀ (l xs:List Int) (c:Int),1<=c->c<=64->xs.length=65->(cX xs l).getD c.toNat 0=xs.getD c.toNat 0+(l.count c:Nat)
 | [],_,_,_,_,_=>by simp [cX]
 | n :: l,xs,c,h1,h2,h3=>by
  show (cX (if 1<=n/\n<=64 then xs.set n.toNat (xs.getD n.toNat 0+1) else xs) l).getD c.toNat 0=_
  rw [xb l _ c h1 h2 (by split; rw [List.length_set,h3]; exact h3),List.count_cons]
  split
  ·rw [sG]
   by_cases e:n=c
   ·subst e; rw [if_pos ⟨rfl,by omega⟩]; simp; omega
   ·rw [if_neg (by omega)]; simp [e]
  ·by_cases e:n=c
   ·omega
   ·simp [e]
theorem uk (l:List Snap) (c:Int) (h1:1<=c) (h2:c<=64):(bM l).getD c.toNat 0=(uQ c l:Nat):=by
 refine pn (p:=fun l=>(bM l).getD c.toNat 0=(uQ c l:Nat)) ?_ (fun l x h=>?_) l
 ·show (List.replicate 65 (0:Int)).getD c.toNat 0=_
  rw [List.getD_eq_getElem?_getD,List.getElem?_replicate]; split <;> simp [uQ]
 ·rw [iq,xb _ _ _ h1 h2 (gf l),h]
  unfold uQ; simp
theorem xj (l:List Snap):((gF (dL (bM l)) 64).length:Int)=(distF l:Int):=by
 unfold gF distF Dt
 rw [List.filter_map,List.length_map]
 congr 2
 apply List.filter_congr
 intro i hi
 rw [List.mem_range] at hi
 have:=uk l ((i:Int)+1) (by omega) (by omega)
 simp only [Function.comp,dL]
 rw [show (dflt .int)=(0:Int) from rfl,this]
 rw [decide_eq_decide]; omega
theorem BU (l m:List Snap) (id:Int) (e:m=bf id l):gF (dF (bM l) (bM m)) 64=jf l id:=by
 subst e
 unfold gF jf xl
 rw [List.filter_map]
 congr 1
 apply List.filter_congr
 intro i hi
 rw [List.mem_range] at hi
 have h1:=uk l ((i:Int)+1) (by omega) (by omega)
 have h2:=uk (bf id l) ((i:Int)+1) (by omega) (by omega)
 simp only [Function.comp,dF]
 rw [show (dflt .int)=(0:Int) from rfl,h1,h2]
 congr 1 <;> (rw [decide_eq_decide]; omega)
def Bj (l:List Snap):List (Nat × LI):=[(3,{ σ:=Nat,F:=fun k=>([(2,one (.ptr 0 0)),(3,one (.ptr 1 0)),(6,one (.fz (.nm .snap) (l))),(7,one (.int (l).length)),(8,one (.int k))],[.arr 201 .int 65 ((List.replicate 65 0)),.arr 201 .int 65 ((bM (l.take k)))]),J:=fun k=>k<=l.length,μ:=fun k=>l.length - k })]
def rT (l:List Snap) (id:Int):List (Nat × LI):=[(3,{ σ:=Nat,F:=fun k=>([(1,one (.int (id))),(5,one (.own 0)),(8,one (.fz (.nm .snap) (l))),(9,one (.int (l).length)),(10,one (.int k))],[.row 73 (.nm .snap) ((bf id (l.take k)))]),J:=fun k=>k<=l.length,μ:=fun k=>l.length - k })]
theorem He (n:Int) (xs:List Int) (r0:Bool):cw tyT oY [] Tryz.f190 [.c (.int (n)),.c (.ptr 0 0)] [.arr 201 .int 65 (xs)] [.c (.bool (.atom (r0)))]=(I64 n->(0:Int)<=n/\n<(↑(65:Nat):Int)/\n.toNat<(65:Nat)/\(I64 (xs.getD n.toNat (dflt Sh.int))->decide ((0:Int)<xs.getD n.toNat (dflt Sh.int))=r0)):=by kernel_rfl
theorem GO (n:Int) (xs:List Int) (h0:0<=n/\n<65):Sat Tryz.prog (ai tyT) 190 [.c (.int (n)),.c (.ptr 0 0)] [.arr 201 .int 65 (xs)] ⟨[0<=n/\n<65],[.c (.bool (.atom ((dL xs n))))],none,false⟩:=by
 refine aM ig [] Tryz.func190 (by decide) (by kernel_rfl) ?_
 rw [He]
 (repeat' (first | with_reducible apply bP | with_reducible refine bQ ?_ | intro)) <;> first | (first | with_reducible rfl | with_reducible assumption | omega | (refine eX ?_ ?_ <;> omega)) | rfl
theorem Ao (n:Int) (xs:List Int) (ys:List Int) (r0:Bool):cw tyT oY [] Tryz.f191 [.c (.int (n)),.c (.ptr 0 0),.c (.ptr 1 0)] [.arr 201 .int 65 (xs),.arr 201 .int 65 (ys)] [.c (.bool (.atom (r0)))]=((fun (q1:Int)=>(fun (q0:den Sh.int)=>I64 n->q1<=n/\n<(↑(65:Nat):Int)/\n.toNat<(65:Nat)/\(I64 q0->(q1<q0->q1<=n/\n<(↑(65:Nat):Int)/\n.toNat<(65:Nat))/\((q1<q0->I64 (ys.getD n.toNat (dflt Sh.int)))->(decide (q1<q0) && decide (ys.getD n.toNat (dflt Sh.int)=q1))=r0))) (xs.getD n.toNat (dflt Sh.int))) (0:Int)):=by kernel_rfl
theorem CH (n:Int) (xs:List Int) (ys:List Int) (h0:0<=n/\n<65):Sat Tryz.prog (ai tyT) 191 [.c (.int (n)),.c (.ptr 0 0),.c (.ptr 1 0)] [.arr 201 .int 65 (xs),.arr 201 .int 65 (ys)] ⟨[0<=n/\n<65],[.c (.bool (.atom ((dF xs ys n))))],none,false⟩:=by
 refine aM ig [] Tryz.func191 (by decide) (by kernel_rfl) ?_
 rw [Ao]
 (repeat' (first | with_reducible apply bP | with_reducible refine bQ ?_ | intro)) <;> first | (first | with_reducible rfl | with_reducible assumption | omega | (refine eX ?_ ?_ <;> omega)) | rfl
theorem Hp (l:List Snap) (r0:List Int):cw tyT oY (Bj l) Tryz.f181 [.c (.fz (.nm .snap) (l))] [] [.agg (iR .int (r0) 0 65)]=((fun (q5:Nat)=>(fun (q4:Nat)=>(fun (q3:Nat)=>(fun (q2:Int)=>(fun (q1:den Sh.int)=>(fun (q0:List (den Sh.int))=>l.length*(64:Nat)<=(140737488355328:Nat)->∃ (s0:Nat),(l=l/\(↑l.length:Int)=(↑q5:Int)/\q2=(↑s0:Int)/\q0=List.replicate q3 (0:den Sh.int)/\q0=bM (List.take s0 l))/\s0<=q5/\∀ (s:Nat),(fun (q7:List Int)=>(fun (q6:List (den Sh.int))=>s<=q5->((↑s:Int)<(↑q5:Int)->q2<=(↑s:Int)/\(↑s:Int)<(↑l.length:Int)/\∀ (x:Snap),l[s]? = some x->I64 x.id->I64 x.set->x.chunks.length*(8:Nat)<=(140737488355328:Nat)->x.tag.b.length<=(140737488355328:Nat)->(∀ (i:Nat),q2<=q7.getD i q2/\q7.getD i q2+(↑x.chunks.length:Int)<=(4611686018427387904:Int))/\I64 ((↑s:Int)+(1:Int))/\∃ (s':Nat),(l=l/\(↑q5:Int)=(↑q5:Int)/\(↑s:Int)+(1:Int)=(↑s':Int)/\List.replicate q3 (0:den Sh.int)=List.replicate q3 (0:den Sh.int)/\cX q7 x.chunks=bM (List.take s' l))/\s' <= q5/\q5 - s' < q5 - s)/\((↑q5:Int)<=(↑s:Int)->q6.getD q4 q1=r0.getD q4 q1/\q6.getD (1:Nat) q1=r0.getD (1:Nat) q1/\q6.getD (2:Nat) q1=r0.getD (2:Nat) q1/\q6.getD (3:Nat) q1=r0.getD (3:Nat) q1/\q6.getD (4:Nat) q1=r0.getD (4:Nat) q1/\q6.getD (5:Nat) q1=r0.getD (5:Nat) q1/\q6.getD (6:Nat) q1=r0.getD (6:Nat) q1/\q6.getD (7:Nat) q1=r0.getD (7:Nat) q1/\q6.getD (8:Nat) q1=r0.getD (8:Nat) q1/\q6.getD (9:Nat) q1=r0.getD (9:Nat) q1/\q6.getD (10:Nat) q1=r0.getD (10:Nat) q1/\q6.getD (11:Nat) q1=r0.getD (11:Nat) q1/\q6.getD (12:Nat) q1=r0.getD (12:Nat) q1/\q6.getD (13:Nat) q1=r0.getD (13:Nat) q1/\q6.getD (14:Nat) q1=r0.getD (14:Nat) q1/\q6.getD (15:Nat) q1=r0.getD (15:Nat) q1/\q6.getD (16:Nat) q1=r0.getD (16:Nat) q1/\q6.getD (17:Nat) q1=r0.getD (17:Nat) q1/\q6.getD (18:Nat) q1=r0.getD (18:Nat) q1/\q6.getD (19:Nat) q1=r0.getD (19:Nat) q1/\q6.getD (20:Nat) q1=r0.getD (20:Nat) q1/\q6.getD (21:Nat) q1=r0.getD (21:Nat) q1/\q6.getD (22:Nat) q1=r0.getD (22:Nat) q1/\q6.getD (23:Nat) q1=r0.getD (23:Nat) q1/\q6.getD (24:Nat) q1=r0.getD (24:Nat) q1/\q6.getD (25:Nat) q1=r0.getD (25:Nat) q1/\q6.getD (26:Nat) q1=r0.getD (26:Nat) q1/\q6.getD (27:Nat) q1=r0.getD (27:Nat) q1/\q6.getD (28:Nat) q1=r0.getD (28:Nat) q1/\q6.getD (29:Nat) q1=r0.getD (29:Nat) q1/\q6.getD (30:Nat) q1=r0.getD (30:Nat) q1/\q6.getD (31:Nat) q1=r0.getD (31:Nat) q1/\q6.getD (32:Nat) q1=r0.getD (32:Nat) q1/\q6.getD (33:Nat) q1=r0.getD (33:Nat) q1/\q6.getD (34:Nat) q1=r0.getD (34:Nat) q1/\q6.getD (35:Nat) q1=r0.getD (35:Nat) q1/\q6.getD (36:Nat) q1=r0.getD (36:Nat) q1/\q6.getD (37:Nat) q1=r0.getD (37:Nat) q1/\q6.getD (38:Nat) q1=r0.getD (38:Nat) q1/\q6.getD (39:Nat) q1=r0.getD (39:Nat) q1/\q6.getD (40:Nat) q1=r0.getD (40:Nat) q1/\q6.getD (41:Nat) q1=r0.getD (41:Nat) q1/\q6.getD (42:Nat) q1=r0.getD (42:Nat) q1/\q6.getD (43:Nat) q1=r0.getD (43:Nat) q1/\q6.getD (44:Nat) q1=r0.getD (44:Nat) q1/\q6.getD (45:Nat) q1=r0.getD (45:Nat) q1/\q6.getD (46:Nat) q1=r0.getD (46:Nat) q1/\q6.getD (47:Nat) q1=r0.getD (47:Nat) q1/\q6.getD (48:Nat) q1=r0.getD (48:Nat) q1/\q6.getD (49:Nat) q1=r0.getD (49:Nat) q1/\q6.getD (50:Nat) q1=r0.getD (50:Nat) q1/\q6.getD (51:Nat) q1=r0.getD (51:Nat) q1/\q6.getD (52:Nat) q1=r0.getD (52:Nat) q1/\q6.getD (53:Nat) q1=r0.getD (53:Nat) q1/\q6.getD (54:Nat) q1=r0.getD (54:Nat) q1/\q6.getD (55:Nat) q1=r0.getD (55:Nat) q1/\q6.getD (56:Nat) q1=r0.getD (56:Nat) q1/\q6.getD (57:Nat) q1=r0.getD (57:Nat) q1/\q6.getD (58:Nat) q1=r0.getD (58:Nat) q1/\q6.getD (59:Nat) q1=r0.getD (59:Nat) q1/\q6.getD (60:Nat) q1=r0.getD (60:Nat) q1/\q6.getD (61:Nat) q1=r0.getD (61:Nat) q1/\q6.getD (62:Nat) q1=r0.getD (62:Nat) q1/\q6.getD (63:Nat) q1=r0.getD (63:Nat) q1/\q6.getD (64:Nat) q1=r0.getD (64:Nat) q1)) (nh Sh.int q7 q4 q3)) (bM (List.take s l))) [q2,q2,q2,q2,q2,q2,q2,q2,q2,q2,q2,q2,q2,q2,q2,q2,q2,q2,q2,q2,q2,q2,q2,q2,q2,q2,q2,q2,q2,q2,q2,q2,q2,q2,q2,q2,q2,q2,q2,q2,q2,q2,q2,q2,q2,q2,q2,q2,q2,q2,q2,q2,q2,q2,q2,q2,q2,q2,q2,q2,q2,q2,q2,q2,q2]) (dflt Sh.int)) (0:Int)) (65:Nat)) (0:Nat)) l.length):=by kernel_rfl
theorem Gu (l:List Snap) (h0:nch l<=1048576):Sat Tryz.prog (ai tyT) 181 [.c (.fz (.nm .snap) (l))] [] ⟨[nch l<=1048576],[.agg (iR .int ((bM l)) 0 65)],none,false⟩:=by
 refine aM ig (Bj l) Tryz.func181 (by decide) (by kernel_rfl) ?_
 rw [Hp]
 iterate 3 ((all_goals (repeat' (first | with_reducible apply bP | with_reducible refine bQ ?_ | intro))); (all_goals try (first | exact cn | exact rfl | exact (KX aq) | exact (vF aq aq _).1 | exact (vF aq aq _).2 | exact (by rw [gq (gf _),List.take_of_length_le aQ]))); all_goals try first | refine ⟨‹Nat› + 1,?_⟩ | refine ⟨0,?_⟩)
theorem xL (l:List Snap) (id:Int) (r0:List Snap):n_ tyT oY (rT l id) Tryz.f184 [.c (.fz (.nm .snap) (l)),.c (.int (id))] [] [.c (.own 0)] [.row 73 (.nm .snap) (r0)]=((fun (q0:Nat)=>l.length*(64:Nat)<=(140737488355328:Nat)->I64 id->∃ (s0:Nat),(fun (q1:Int)=>(id=id/\l=l/\(↑l.length:Int)=q1/\(0:Int)=(↑s0:Int)/\bf id (List.take s0 l)=[])/\s0<=q0/\∀ (s:Nat),(fun (q3:List Snap)=>(fun (q2:Int)=>s<=q0->((↑s:Int)<q1->(0:Int)<=(↑s:Int)/\(↑s:Int)<(↑l.length:Int)/\∀ (x:Snap),(fun (q4:Prop)=>l[s]? = some x->I64 x.id->I64 x.set->q4->x.tag.b.length<=(140737488355328:Nat)->(¬x.id=id->q4->(q3.length+[x].length)*(64:Nat)<=(140737488355328:Nat)/\I64 q2/\∃ (s':Nat),(id=id/\l=l/\q1=q1/\q2=(↑s':Int)/\q3++[x]=bf id (List.take s' l))/\s' <= q0/\q0 - s' < q0 - s)/\(x.id=id->I64 q2/\∃ (s':Nat),(id=id/\l=l/\q1=q1/\q2=(↑s':Int)/\q3=bf id (List.take s' l))/\s' <= q0/\q0 - s' < q0 - s)) (x.chunks.length*(8:Nat)<=(140737488355328:Nat)))/\(q1<=(↑s:Int)->q3=r0)) ((↑s:Int)+(1:Int))) (bf id (List.take s l))) (↑q0:Int)) l.length):=by kernel_rfl
theorem xD (l:List Snap) (id:Int):Sat Tryz.prog (ai tyT) 184 [.c (.fz (.nm .snap) (l)),.c (.int (id))] [] ⟨[],[.c (.own 0)],some ([.row 73 (.nm .snap) ((bf id l))]),true⟩:=by
 refine dO ig (rT l id) Tryz.func184 (by decide) (by kernel_rfl) ?_
 rw [xL]
 iterate 3 ((all_goals (repeat' (first | with_reducible apply bP | with_reducible refine bQ ?_ | intro))); (all_goals try (first | exact cn | exact rfl | exact (Nn aq aq aq) | exact (Of aq aq) | exact (LB aQ) | exact (KH aQ aQ))); all_goals try first | refine ⟨‹Nat› + 1,?_⟩ | refine ⟨0,?_⟩)
def vP:cd:=(bq 184 (bm (ah (kC (cL (.nm .snap))) (ah (kC cI) aK)) aJ fun (l,id,_) (_)=>⟨[],[.c (.own 0)],some ([.row 73 (.nm .snap) ((bf id l))]),true⟩) (bq 181 (bm (ah (kC (cL (.nm .snap))) aK) aJ fun (l,_) (_)=>⟨[nch l<=1048576],[.agg (iR .int ((bM l)) 0 65)],none,false⟩) (bq 191 (bm (ah (kC cI) (ah (kC (bJ 0 0)) (ah (kC (bJ 1 0)) aK))) (az (qe 201 .int 65) (az (qe 201 .int 65) aJ)) fun (n,_,_,_) (xs,ys,_)=>⟨[0<=n/\n<65],[.c (.bool (.atom ((dF xs ys n))))],none,false⟩) (bq 190 (bm (ah (kC cI) (ah (kC (bJ 0 0)) aK)) (az (qe 201 .int 65) aJ) fun (n,_,_) (xs,_)=>⟨[0<=n/\n<65],[.c (.bool (.atom ((dL xs n))))],none,false⟩) oY))))
theorem mm:aN Tryz.prog (ai tyT) vP:=(av (au (ab (al bb) (ab (al aw) ak)) aj fun (l,id,_) (_) _=>xD l id ) (av (au (ab (al bb) ak) aj fun (l,_) (_) hp=>Gu l (dB hp)) (av (au (ab (al aw) (ab (al aI) (ab (al aI) ak))) (ag gp (ag gp aj)) fun (n,_,_,_) (xs,ys,_) hp=>CH n xs ys (dB hp)) (av (au (ab (al aw) (ab (al aI) ak)) (ag gp aj) fun (n,_,_) (xs,_) hp=>GO n xs (dB hp)) ig))))
def rU (xs:List Int):List (Nat × LI):=[(3,{ σ:=Nat,F:=fun k=>([(0,one (.fn 190 [] [(0,0)])),(3,one (.own 1)),(4,one (.int (k+1)))],[.arr 201 .int 65 ((xs)),.row 3 .int ((gF (dL xs) k))]),J:=fun k=>k<=64,μ:=fun k=>64 - k })]
def rP (xs:List Int) (ys:List Int):List (Nat × LI):=[(3,{ σ:=Nat,F:=fun k=>([(0,one (.fn 191 [] [(0,0),(1,0)])),(3,one (.own 2)),(4,one (.int (k+1)))],[.arr 201 .int 65 ((xs)),.arr 201 .int 65 ((ys)),.row 3 .int ((gF (dF xs ys) k))]),J:=fun k=>k<=64,μ:=fun k=>64 - k })]
theorem yT (xs:List Int) (r0:List Int):cw tyT vP (rU xs) Tryz.f189 [.c (.fn 190 [] [(0,0)])] [.arr 201 .int 65 (xs)] [.c (.fz .int (r0))]=((fun (q1:Nat)=>(fun (q0:Int)=>∃ (s0:Nat),(q0=(↑s0:Int)+q0/\xs=xs/\gF (dL xs) s0=[])/\s0<=q1/\∀ (s:Nat),(fun (q3:List Int)=>(fun (q2:Int)=>s<=q1->(q2<=(64:Int)->((0:Int)<=q2/\q2<(65:Int))/\(dL xs q2=true->(q3.length+[q2].length)*(8:Nat)<=(140737488355328:Nat)/\I64 (q2+q0)/\∃ (s':Nat),(q2+q0=(↑s':Int)+q0/\xs=xs/\q3++[q2]=gF (dL xs) s')/\s' <= q1/\q1 - s' < q1 - s)/\(dL xs q2=false->I64 (q2+q0)/\∃ (s':Nat),(q2+q0=(↑s':Int)+q0/\xs=xs/\q3=gF (dL xs) s')/\s' <= q1/\q1 - s' < q1 - s))/\((64:Int)<q2->q3=r0)) ((↑s:Int)+q0)) (gF (dL xs) s)) (1:Int)) (64:Nat)):=by kernel_rfl
theorem ym (xs:List Int):Sat Tryz.prog (ai tyT) 189 [.c (.fn 190 [] [(0,0)])] [.arr 201 .int 65 (xs)] ⟨[],[.c (.fz .int ((gF (dL xs) 64)))],none,false⟩:=by
 refine aM mm (rU xs) Tryz.func189 (by decide) (by kernel_rfl) ?_
 rw [yT]
 iterate 3 ((all_goals (repeat' (first | with_reducible apply bP | with_reducible refine bQ ?_ | intro))); (all_goals try (first | exact cn | exact rfl | exact (Ok aq) | exact (NK aq) | exact (OS aQ aQ) | exact (Di aQ) | exact (And.intro aQ aQ))); all_goals try first | refine ⟨‹Nat› + 1,?_⟩ | refine ⟨0,?_⟩)
theorem x_ (xs:List Int) (ys:List Int) (r0:List Int):cw tyT vP (rP xs ys) Tryz.f189 [.c (.fn 191 [] [(0,0),(1,0)])] [.arr 201 .int 65 (xs),.arr 201 .int 65 (ys)] [.c (.fz .int (r0))]=((fun (q1:Nat)=>(fun (q0:Int)=>∃ (s0:Nat),(q0=(↑s0:Int)+q0/\xs=xs/\ys=ys/\gF (dF xs ys) s0=[])/\s0<=q1/\∀ (s:Nat),(fun (q3:List Int)=>(fun (q2:Int)=>s<=q1->(q2<=(64:Int)->((0:Int)<=q2/\q2<(65:Int))/\(dF xs ys q2=true->(q3.length+[q2].length)*(8:Nat)<=(140737488355328:Nat)/\I64 (q2+q0)/\∃ (s':Nat),(q2+q0=(↑s':Int)+q0/\xs=xs/\ys=ys/\q3++[q2]=gF (dF xs ys) s')/\s' <= q1/\q1 - s' < q1 - s)/\(dF xs ys q2=false->I64 (q2+q0)/\∃ (s':Nat),(q2+q0=(↑s':Int)+q0/\xs=xs/\ys=ys/\q3=gF (dF xs ys) s')/\s' <= q1/\q1 - s' < q1 - s))/\((64:Int)<q2->q3=r0)) ((↑s:Int)+q0)) (gF (dF xs ys) s)) (1:Int)) (64:Nat)):=by kernel_rfl
theorem yr (xs:List Int) (ys:List Int):Sat Tryz.prog (ai tyT) 189 [.c (.fn 191 [] [(0,0),(1,0)])] [.arr 201 .int 65 (xs),.arr 201 .int 65 (ys)] ⟨[],[.c (.fz .int ((gF (dF xs ys) 64)))],none,false⟩:=by
 refine aM mm (rP xs ys) Tryz.func189 (by decide) (by kernel_rfl) ?_
 rw [x_]
 iterate 3 ((all_goals (repeat' (first | with_reducible apply bP | with_reducible refine bQ ?_ | intro))); (all_goals try (first | exact cn | exact rfl | exact (Ok aq) | exact (NK aq) | exact (OS aQ aQ) | exact (Di aQ) | exact (And.intro aQ aQ))); all_goals try first | refine ⟨‹Nat› + 1,?_⟩ | refine ⟨0,?_⟩)
def wH:cd:=(bq 189 (bm (ah (kC (nX 191 [] [(0,0),(1,0)])) aK) (az (qe 201 .int 65) (az (qe 201 .int 65) aJ)) fun (_,_) (xs,ys,_)=>⟨[],[.c (.fz .int ((gF (dF xs ys) 64)))],none,false⟩) (bq 189 (bm (ah (kC (nX 190 [] [(0,0)])) aK) (az (qe 201 .int 65) aJ) fun (_,_) (xs,_)=>⟨[],[.c (.fz .int ((gF (dL xs) 64)))],none,false⟩) vP))
theorem mU:aN Tryz.prog (ai tyT) wH:=(av (au (ab (al cJ) ak) (ag gp (ag gp aj)) fun (_,_) (xs,ys,_) _=>yr xs ys ) (av (au (ab (al cJ) ak) (ag gp aj) fun (_,_) (xs,_) _=>ym xs ) mm))
theorem JA (xs:List Int) (r0:List Int):cw tyT wH [] Tryz.f180 [.agg (iR .int (xs) 0 65)] [] [.c (.fz .int (r0))]=((fun (q1:List Int)=>(fun (q0:den Sh.int)=>I64 (xs.getD (0:Nat) q0)->I64 (xs.getD (1:Nat) q0)->I64 (xs.getD (2:Nat) q0)->I64 (xs.getD (3:Nat) q0)->I64 (xs.getD (4:Nat) q0)->I64 (xs.getD (5:Nat) q0)->I64 (xs.getD (6:Nat) q0)->I64 (xs.getD (7:Nat) q0)->I64 (xs.getD (8:Nat) q0)->I64 (xs.getD (9:Nat) q0)->I64 (xs.getD (10:Nat) q0)->I64 (xs.getD (11:Nat) q0)->I64 (xs.getD (12:Nat) q0)->I64 (xs.getD (13:Nat) q0)->I64 (xs.getD (14:Nat) q0)->I64 (xs.getD (15:Nat) q0)->I64 (xs.getD (16:Nat) q0)->I64 (xs.getD (17:Nat) q0)->I64 (xs.getD (18:Nat) q0)->I64 (xs.getD (19:Nat) q0)->I64 (xs.getD (20:Nat) q0)->I64 (xs.getD (21:Nat) q0)->I64 (xs.getD (22:Nat) q0)->I64 (xs.getD (23:Nat) q0)->I64 (xs.getD (24:Nat) q0)->I64 (xs.getD (25:Nat) q0)->I64 (xs.getD (26:Nat) q0)->I64 (xs.getD (27:Nat) q0)->I64 (xs.getD (28:Nat) q0)->I64 (xs.getD (29:Nat) q0)->I64 (xs.getD (30:Nat) q0)->I64 (xs.getD (31:Nat) q0)->I64 (xs.getD (32:Nat) q0)->I64 (xs.getD (33:Nat) q0)->I64 (xs.getD (34:Nat) q0)->I64 (xs.getD (35:Nat) q0)->I64 (xs.getD (36:Nat) q0)->I64 (xs.getD (37:Nat) q0)->I64 (xs.getD (38:Nat) q0)->I64 (xs.getD (39:Nat) q0)->I64 (xs.getD (40:Nat) q0)->I64 (xs.getD (41:Nat) q0)->I64 (xs.getD (42:Nat) q0)->I64 (xs.getD (43:Nat) q0)->I64 (xs.getD (44:Nat) q0)->I64 (xs.getD (45:Nat) q0)->I64 (xs.getD (46:Nat) q0)->I64 (xs.getD (47:Nat) q0)->I64 (xs.getD (48:Nat) q0)->I64 (xs.getD (49:Nat) q0)->I64 (xs.getD (50:Nat) q0)->I64 (xs.getD (51:Nat) q0)->I64 (xs.getD (52:Nat) q0)->I64 (xs.getD (53:Nat) q0)->I64 (xs.getD (54:Nat) q0)->I64 (xs.getD (55:Nat) q0)->I64 (xs.getD (56:Nat) q0)->I64 (xs.getD (57:Nat) q0)->I64 (xs.getD (58:Nat) q0)->I64 (xs.getD (59:Nat) q0)->I64 (xs.getD (60:Nat) q0)->I64 (xs.getD (61:Nat) q0)->I64 (xs.getD (62:Nat) q0)->I64 (xs.getD (63:Nat) q0)->I64 (xs.getD (64:Nat) q0)->q1.length*(8:Nat)<=(140737488355328:Nat)->q1=r0) (dflt Sh.int)) (gF (dL (nh Sh.int xs (0:Nat) (65:Nat))) (64:Nat))):=by kernel_rfl
theorem LO (xs:List Int) (h0:xs.length=65):Sat Tryz.prog (ai tyT) 180 [.agg (iR .int (xs) 0 65)] [] ⟨[xs.length=65],[.c (.fz .int ((gF (dL xs) 64)))],none,false⟩:=by
 refine aM mU [] Tryz.func180 (by decide) (by kernel_rfl) ?_
 rw [JA]
 (repeat' (first | with_reducible apply bP | with_reducible refine bQ ?_ | intro))
 all_goals (first | exact cn | exact (by rw [gq h0]) | exact (by rw [gq h0]; assumption))
theorem B_ (l:List Snap) (id:Int) (r0:List Int):cw tyT wH [] Tryz.f183 [.c (.fz (.nm .snap) (l)),.c (.int (id))] [] [.c (.fz .int (r0))]=((fun (q3:Nat)=>(fun (q2:List Int)=>(fun (q1:den Sh.int)=>(fun (q0:List Int)=>l.length*(64:Nat)<=(140737488355328:Nat)->I64 id->nch l<=(1048576:Nat)/\(I64 (q2.getD q3 q1)->I64 (q2.getD (1:Nat) q1)->I64 (q2.getD (2:Nat) q1)->I64 (q2.getD (3:Nat) q1)->I64 (q2.getD (4:Nat) q1)->I64 (q2.getD (5:Nat) q1)->I64 (q2.getD (6:Nat) q1)->I64 (q2.getD (7:Nat) q1)->I64 (q2.getD (8:Nat) q1)->I64 (q2.getD (9:Nat) q1)->I64 (q2.getD (10:Nat) q1)->I64 (q2.getD (11:Nat) q1)->I64 (q2.getD (12:Nat) q1)->I64 (q2.getD (13:Nat) q1)->I64 (q2.getD (14:Nat) q1)->I64 (q2.getD (15:Nat) q1)->I64 (q2.getD (16:Nat) q1)->I64 (q2.getD (17:Nat) q1)->I64 (q2.getD (18:Nat) q1)->I64 (q2.getD (19:Nat) q1)->I64 (q2.getD (20:Nat) q1)->I64 (q2.getD (21:Nat) q1)->I64 (q2.getD (22:Nat) q1)->I64 (q2.getD (23:Nat) q1)->I64 (q2.getD (24:Nat) q1)->I64 (q2.getD (25:Nat) q1)->I64 (q2.getD (26:Nat) q1)->I64 (q2.getD (27:Nat) q1)->I64 (q2.getD (28:Nat) q1)->I64 (q2.getD (29:Nat) q1)->I64 (q2.getD (30:Nat) q1)->I64 (q2.getD (31:Nat) q1)->I64 (q2.getD (32:Nat) q1)->I64 (q2.getD (33:Nat) q1)->I64 (q2.getD (34:Nat) q1)->I64 (q2.getD (35:Nat) q1)->I64 (q2.getD (36:Nat) q1)->I64 (q2.getD (37:Nat) q1)->I64 (q2.getD (38:Nat) q1)->I64 (q2.getD (39:Nat) q1)->I64 (q2.getD (40:Nat) q1)->I64 (q2.getD (41:Nat) q1)->I64 (q2.getD (42:Nat) q1)->I64 (q2.getD (43:Nat) q1)->I64 (q2.getD (44:Nat) q1)->I64 (q2.getD (45:Nat) q1)->I64 (q2.getD (46:Nat) q1)->I64 (q2.getD (47:Nat) q1)->I64 (q2.getD (48:Nat) q1)->I64 (q2.getD (49:Nat) q1)->I64 (q2.getD (50:Nat) q1)->I64 (q2.getD (51:Nat) q1)->I64 (q2.getD (52:Nat) q1)->I64 (q2.getD (53:Nat) q1)->I64 (q2.getD (54:Nat) q1)->I64 (q2.getD (55:Nat) q1)->I64 (q2.getD (56:Nat) q1)->I64 (q2.getD (57:Nat) q1)->I64 (q2.getD (58:Nat) q1)->I64 (q2.getD (59:Nat) q1)->I64 (q2.getD (60:Nat) q1)->I64 (q2.getD (61:Nat) q1)->I64 (q2.getD (62:Nat) q1)->I64 (q2.getD (63:Nat) q1)->I64 (q2.getD (64:Nat) q1)->nch (bf id l)<=(1048576:Nat)/\(I64 (q0.getD q3 q1)->I64 (q0.getD (1:Nat) q1)->I64 (q0.getD (2:Nat) q1)->I64 (q0.getD (3:Nat) q1)->I64 (q0.getD (4:Nat) q1)->I64 (q0.getD (5:Nat) q1)->I64 (q0.getD (6:Nat) q1)->I64 (q0.getD (7:Nat) q1)->I64 (q0.getD (8:Nat) q1)->I64 (q0.getD (9:Nat) q1)->I64 (q0.getD (10:Nat) q1)->I64 (q0.getD (11:Nat) q1)->I64 (q0.getD (12:Nat) q1)->I64 (q0.getD (13:Nat) q1)->I64 (q0.getD (14:Nat) q1)->I64 (q0.getD (15:Nat) q1)->I64 (q0.getD (16:Nat) q1)->I64 (q0.getD (17:Nat) q1)->I64 (q0.getD (18:Nat) q1)->I64 (q0.getD (19:Nat) q1)->I64 (q0.getD (20:Nat) q1)->I64 (q0.getD (21:Nat) q1)->I64 (q0.getD (22:Nat) q1)->I64 (q0.getD (23:Nat) q1)->I64 (q0.getD (24:Nat) q1)->I64 (q0.getD (25:Nat) q1)->I64 (q0.getD (26:Nat) q1)->I64 (q0.getD (27:Nat) q1)->I64 (q0.getD (28:Nat) q1)->I64 (q0.getD (29:Nat) q1)->I64 (q0.getD (30:Nat) q1)->I64 (q0.getD (31:Nat) q1)->I64 (q0.getD (32:Nat) q1)->I64 (q0.getD (33:Nat) q1)->I64 (q0.getD (34:Nat) q1)->I64 (q0.getD (35:Nat) q1)->I64 (q0.getD (36:Nat) q1)->I64 (q0.getD (37:Nat) q1)->I64 (q0.getD (38:Nat) q1)->I64 (q0.getD (39:Nat) q1)->I64 (q0.getD (40:Nat) q1)->I64 (q0.getD (41:Nat) q1)->I64 (q0.getD (42:Nat) q1)->I64 (q0.getD (43:Nat) q1)->I64 (q0.getD (44:Nat) q1)->I64 (q0.getD (45:Nat) q1)->I64 (q0.getD (46:Nat) q1)->I64 (q0.getD (47:Nat) q1)->I64 (q0.getD (48:Nat) q1)->I64 (q0.getD (49:Nat) q1)->I64 (q0.getD (50:Nat) q1)->I64 (q0.getD (51:Nat) q1)->I64 (q0.getD (52:Nat) q1)->I64 (q0.getD (53:Nat) q1)->I64 (q0.getD (54:Nat) q1)->I64 (q0.getD (55:Nat) q1)->I64 (q0.getD (56:Nat) q1)->I64 (q0.getD (57:Nat) q1)->I64 (q0.getD (58:Nat) q1)->I64 (q0.getD (59:Nat) q1)->I64 (q0.getD (60:Nat) q1)->I64 (q0.getD (61:Nat) q1)->I64 (q0.getD (62:Nat) q1)->I64 (q0.getD (63:Nat) q1)->I64 (q0.getD (64:Nat) q1)->(gF (dF (nh Sh.int q2 q3 (65:Nat)) (nh Sh.int q0 q3 (65:Nat))) (64:Nat)).length*(8:Nat)<=(140737488355328:Nat)->gF (dF (nh Sh.int q2 q3 (65:Nat)) (nh Sh.int q0 q3 (65:Nat))) (64:Nat)=r0))) (bM (bf id l))) (dflt Sh.int)) (bM l)) (0:Nat)):=by kernel_rfl
theorem Ap (l:List Snap) (id:Int) (h0:nch l<=1048576):Sat Tryz.prog (ai tyT) 183 [.c (.fz (.nm .snap) (l)),.c (.int (id))] [] ⟨[nch l<=1048576],[.c (.fz .int ((jf l id)))],none,false⟩:=by
 refine aM mU [] Tryz.func183 (by decide) (by kernel_rfl) ?_
 rw [B_]
 (repeat' (first | with_reducible apply bP | with_reducible refine bQ ?_ | intro))
 all_goals (first | exact cn | exact (La (by assumption)) | exact (by rw [gq (gf _),gq (gf _)]; exact BU _ _ _ rfl))
def vN:cd:=(bq 183 (bm (ah (kC (cL (.nm .snap))) (ah (kC cI) aK)) aJ fun (l,id,_) (_)=>⟨[nch l<=1048576],[.c (.fz .int ((jf l id)))],none,false⟩) (bq 180 (bm (ah (kA .int 65) aK) aJ fun (xs,_) (_)=>⟨[xs.length=65],[.c (.fz .int ((gF (dL xs) 64)))],none,false⟩) wH))
theorem nT:aN Tryz.prog (ai tyT) vN:=(av (au (ab (al bb) (ab (al aw) ak)) aj fun (l,id,_) (_) hp=>Ap l id (dB hp)) (av (au (ab NV ak) aj fun (xs,_) (_) hp=>LO xs (dB hp)) mU))
end Go.Proofs.YtladifkbefehdaaGreat
