/- What leads to the law, part 4. Conditions: each lemma's own. -/
import Derived.Test.YtdggohppeeaipaaGreatKMM3
set_option linter.unusedVariables false
set_option linter.unusedSimpArgs false
namespace Go.Proofs.YtdggohppeeaipaaGreat
open Go.RowKit
theorem lU (z:Array Value) (n:Nat):(Builtin.zeroCells z n).toList.length=n*z.size:=by rw [Array.length_toList,size_zeroCells]
theorem ba {w:World} {g:Nat} {o:Obj} (h:w.heap[g]? = some o):g<w.heap.size:=(Array.getElem?_eq_some_iff.1 h).1
theorem cf:(Tryz.prog.info? 44).map (·.size)=some 4:=by kernel_rfl
theorem zw:(Tryz.prog.info? 44).map (fun i=>(i.zero,i.size,i.bytes))=some (some (.agg #[.int .i64 0,.int .i64 0,.int .i64 0,.int .i64 0]),4,32):=by kernel_rfl
set_option maxRecDepth 100000 in
set_option maxHeartbeats 1000000 in
theorem rV {w:World} {n c vc:Nat} {A:Option Addr} {B:Option Addr} {φ:Value->World->Prop} (happ:∀ (F:Fr) (x y:Operand) (ty:TypeId),ev F x=some (.slice A n c)->ev F y=some (.slice B 1 vc)->∃ v2 w2,aL Tryz.prog 95 F w (.call { callee:=.builtin .append,args:=#[x,y],argTypes:=#[22,22] }) ty v2 w2/\φ v2 w2) :
  gQ Tryz.prog 36 [.slice A n c,.int .i64 (n:Int),.slice B 1 vc].toArray w φ:=by
 refine gQ.enter Tryz.func36 rfl rfl rfl rfl ?_
 refine WC.seq ?_
 refine WC.region ?_
 refine WO.v (R.assign rfl) rfl ?_
 refine WO.nil ?_
 refine WX.next ?_
 refine WC.seq ?_
 refine WC.region ?_
 refine WO.v (R.move rfl) rfl ?_
 refine WO.v (R.move rfl) rfl ?_
 refine WO.v (R.cc rfl rfl Tryz.underlying22 cf rfl (by omega)) rfl ?_
 refine WO.nil ?_
 refine WX.next ?_
 refine WC.seq ?_
 refine WC.region ?_
 refine WO.v (R.move rfl) rfl ?_
 refine WO.v (R.len rfl Tryz.underlying22) rfl ?_
 refine WO.v (R.assign rfl) rfl ?_
 refine WO.nil ?_
 refine WX.next ?_
 refine WC.seq ?_
 refine WC.seq ?_
 refine WC.region ?_
 refine WO.v (R.move rfl) rfl ?_
 refine WO.v (R.eql rfl rfl) rfl ?_
 refine WO.nil ?_
 refine WX.next ?_
 refine WC.cond rfl (fun q=>absurd (of_decide_eq_true q) (by omega)) (fun _=>?_)
 refine WC.skip ?_
 refine WX.next ?_
 refine WC.seq ?_
 refine WC.region ?_
 refine WO.v (R.move rfl) rfl ?_
 refine WO.v (R.len rfl Tryz.underlying22) rfl ?_
 refine WO.v (R.assign rfl) rfl ?_
 refine WO.nil ?_
 refine WX.next ?_
 refine WC.seq ?_
 refine WC.seq ?_
 refine WC.region ?_
 refine WO.v (R.move rfl) rfl ?_
 refine WO.v (R.move rfl) rfl ?_
 refine WO.v (R.eql rfl rfl) rfl ?_
 refine WO.nil ?_
 refine WX.next ?_
 refine WC.cond rfl (fun _=>?_) (fun q=>absurd rfl (of_decide_eq_false q))
 refine WC.seq ?_
 refine WC.region ?_
 refine WO.v (R.move rfl) rfl ?_
 refine WO.v (R.move rfl) rfl ?_
 refine WO.ve (happ _ _ _ _ rfl rfl) rfl fun v2 w2 hv2=>?_
 refine WO.v (R.assign rfl) rfl ?_
 refine WO.nil ?_
 refine WX.next ?_
 refine WC.ret ?_
 refine WX.gG ?_
 refine WX.tV rfl rfl ?_
 exact hv2
set_option maxRecDepth 100000 in
set_option maxHeartbeats 1000000 in
theorem pE {w W1:World} {g b n i c vc G:Nat} {ad:Addr} {cur vs ds:List Value} (hi:i<n) (hnc:n<=c) (hc:c<n+1) (hcm:c<=maxLen) (hG:n+1<=G) (hGm:G<=maxLen)
  (happ:∀ (F:Fr) (x y:Operand) (ty:TypeId),ev F x=some (.slice (some ⟨g,0*4,none⟩) i c)->ev F y=some (.int .i64 ((n+1 - i:Nat):Int))->aL Tryz.prog 95 F w (.call { callee:=.builtin .append,args:=#[x,y],argTypes:=#[22,3] }) ty (.slice (some ⟨b,0,none⟩) (n+1) G) W1)
  (hrow:W1.heap[b]? = some (.cells cur.toArray 44 (0,0))) (hcur:(n+1)*4<=cur.length) (hv:CellsAt W1 ad vs) (hvl:vs.length=4) (hd:CellsAt W1 ⟨g,i*4,none⟩ ds) (hgb:g≠b) (hgl:g<W1.heap.size) (hdl:ds.length=(n - i)*4)
  (h1v:∀ u ∈ vs,u.oneCell' = true) (h1d:∀ u ∈ ds,u.oneCell' = true) :
  gQ Tryz.prog 36 [.slice (some ⟨g,0,none⟩) n c,.int .i64 (i:Int),.slice (some ad) 1 vc].toArray w fun v w'=>v = .slice (some ⟨b,0,none⟩) (n+1) G/\∃ w1,Kp [] (W1.setRow b (cur.take (i*4)++vs++cur.drop (i*4+vs.length)).toArray) w1/\w' = w1.setRow b ((cur.take (i*4)++vs++cur.drop (i*4+vs.length)).take ((i+1)*4)++ds++(cur.take (i*4)++vs++cur.drop (i*4+vs.length)).drop ((i+1)*4+ds.length)).toArray:=by
 have hGm:G<=9223372036854775807:=hGm
 have hcm:c<=9223372036854775807:=hcm
 have hn1:vs.length=Nat.min 1 (n+1 - i)*4:=by rw [show Nat.min 1 (n+1 - i)=1 from Nat.min_eq_left (by omega),Nat.one_mul]; exact hvl
 have hn2:ds.length=Nat.min (n - i) (n+1 - (i+1))*4:=by rw [show Nat.min (n - i) (n+1 - (i+1))=n - i from Nat.min_eq_left (by omega)]; exact hdl
 refine gQ.enter Tryz.func36 rfl rfl rfl rfl ?_
 refine WC.seq ?_
 refine WC.region ?_
 refine WO.v (R.assign rfl) rfl ?_
 refine WO.nil ?_
 refine WX.next ?_
 refine WC.seq ?_
 refine WC.region ?_
 refine WO.v (R.move rfl) rfl ?_
 refine WO.v (R.move rfl) rfl ?_
 refine WO.v (R.cc rfl rfl Tryz.underlying22 cf rfl (by omega)) rfl ?_
 refine WO.nil ?_
 refine WX.next ?_
 refine WC.seq ?_
 refine WC.region ?_
 refine WO.v (R.move rfl) rfl ?_
 refine WO.v (R.len rfl Tryz.underlying22) rfl ?_
 refine WO.v (R.assign rfl) rfl ?_
 refine WO.nil ?_
 refine WX.next ?_
 refine WC.seq ?_
 refine WC.seq ?_
 refine WC.region ?_
 refine WO.v (R.move rfl) rfl ?_
 refine WO.v (R.eql rfl rfl) rfl ?_
 refine WO.nil ?_
 refine WX.next ?_
 refine WC.cond rfl (fun q=>absurd (of_decide_eq_true q) (by omega)) (fun _=>?_)
 refine WC.skip ?_
 refine WX.next ?_
 refine WC.seq ?_
 refine WC.region ?_
 refine WO.v (R.move rfl) rfl ?_
 refine WO.v (R.len rfl Tryz.underlying22) rfl ?_
 refine WO.v (R.assign rfl) rfl ?_
 refine WO.nil ?_
 refine WX.next ?_
 refine WC.seq ?_
 refine WC.seq ?_
 refine WC.region ?_
 refine WO.v (R.move rfl) rfl ?_
 refine WO.v (R.move rfl) rfl ?_
 refine WO.v (R.eql rfl rfl) rfl ?_
 refine WO.nil ?_
 refine WX.next ?_
 refine WC.cond rfl (fun q=>absurd (of_decide_eq_true q) (by omega)) (fun _=>?_)
 refine WC.skip ?_
 refine WX.next ?_
 refine WC.seq ?_
 refine WC.seq ?_
 refine WC.region ?_
 refine WO.v (R.move rfl) rfl ?_
 refine WO.v (R.move rfl) rfl ?_
 refine WO.v (R.je rfl rfl (by omega)) rfl ?_
 refine WO.v (R.move rfl) rfl ?_
 refine WO.v (R.Ct rfl Tryz.underlying22) rfl ?_
 refine WO.v (R.gtr rfl rfl) rfl ?_
 refine WO.nil ?_
 refine WX.next ?_
 refine WC.cond rfl (fun _=>?_) (fun q=>absurd (by omega) (of_decide_eq_false q))
 refine WC.seq ?_
 refine WC.region ?_
 refine WO.v (R.move rfl) rfl ?_
 refine WO.v (R.move rfl) rfl ?_
 refine WO.v (R.jS rfl rfl Tryz.underlying22 cf (dp (i:=0) (by omega)) (by omega)) rfl ?_
 refine WO.v (R.move rfl) rfl ?_
 refine WO.v (R.move rfl) rfl ?_
 refine WO.v (R.je rfl rfl (by omega)) rfl ?_
 refine WO.v (R.move rfl) rfl ?_
 refine WO.v (R.It rfl rfl (by omega) (by omega)) rfl ?_
 refine WO.v (happ _ _ _ _ rfl rfl) rfl ?_
 refine WO.v (R.assign rfl) rfl ?_
 refine WO.nil ?_
 refine WX.next ?_
 refine WC.seq ?_
 refine WC.region ?_
 refine WO.v (R.move rfl) rfl ?_
 refine WO.v (R.move rfl) rfl ?_
 refine WO.v (R.cc rfl rfl Tryz.underlying22 cf (dp (by omega)) (by omega)) rfl ?_
 refine WO.v (R.move rfl) rfl ?_
 refine WO.v (R.kZ rfl rfl Tryz.underlying22 cf hrow hn1 hv (by omega) h1v) rfl ?_
 refine WO.nil ?_
 refine WX.next ?_
 refine WC.seq ?_
 refine WC.nW fU [.ex [] (.slice (some ⟨b,0,none⟩) (n+1) G),.ex [] (.int .i64 ((i:Nat):Int)),.ex [] (.int .i64 ((1:Nat):Int)),.ex [1,2] (.int .i64 ((i+1:Nat):Int)),.ex [0,3] (.slice (some ⟨b,(i+1)*4,none⟩) (n+1 - (i+1)) (G - (i+1))),.ex [] (.slice (some ⟨g,0,none⟩) n c),.ex [] (.int .i64 ((i:Nat):Int)),.ex [5,6] (.slice (some ⟨g,i*4,none⟩) (n - i) (c - i))] 8 (by kernel_rfl) ⟨fun _ _ _ h _=>h,fun _ _ _ h _=>h,fun _ _ _ h _=>h,fun _ _ _ h _=>h,fun _ _ _ h _=>h,fun _ _ _ h _=>h,fun _ _ _ h _=>h,fun _ _ _ h _=>h,trivial⟩ ⟨?_,?_,?_,?_,?_,?_,?_,?_,trivial⟩ ?_
 ·rintro vs wd kd ⟨-⟩
  refine WO.br (fr':=[(9,.slice (some ⟨b,0,none⟩) (n+1) G)]) ⟨⟨_,rfl,rfl⟩,trivial⟩ ?_
  refine WO.v (R.move rfl) rfl ?_
  refine WO.nil ?_
  exact WX.aI rfl rfl (Kp.refl _)
 ·rintro vs wd kd ⟨-⟩
  refine WO.br (fr':=[(1,.int .i64 ((i:Nat):Int))]) ⟨⟨_,rfl,rfl⟩,trivial⟩ ?_
  refine WO.v (R.move rfl) rfl ?_
  refine WO.nil ?_
  exact WX.aI rfl rfl (Kp.refl _)
 ·rintro vs wd kd ⟨-⟩
  refine WO.br (fr':=[(7,.int .i64 ((1:Nat):Int))]) ⟨⟨_,rfl,rfl⟩,trivial⟩ ?_
  refine WO.v (R.move rfl) rfl ?_
  refine WO.nil ?_
  exact WX.aI rfl rfl (Kp.refl _)
 ·rintro vs wd kd ⟨e1,e2,-⟩
  refine WO.br (fr':=[(47,.int .i64 ((i:Nat):Int)),(48,.int .i64 ((1:Nat):Int))]) ⟨⟨_,rfl,e1⟩,⟨_,rfl,e2⟩,trivial⟩ ?_
  refine WO.v (R.je rfl rfl (by omega)) rfl ?_
  refine WO.nil ?_
  exact WX.aI rfl rfl (Kp.refl _)
 ·rintro vs wd kd ⟨e0,e3,-⟩
  refine WO.br (fr':=[(46,.slice (some ⟨b,0,none⟩) (n+1) G),(49,.int .i64 ((i+1:Nat):Int))]) ⟨⟨_,rfl,e0⟩,⟨_,rfl,e3⟩,trivial⟩ ?_
  refine WO.v (R.cc rfl rfl Tryz.underlying22 cf (dp (by omega)) (by omega)) rfl ?_
  refine WO.nil ?_
  exact WX.aI rfl rfl (Kp.refl _)
 ·rintro vs wd kd ⟨-⟩
  refine WO.br (fr':=[(0,.slice (some ⟨g,0,none⟩) n c)]) ⟨⟨_,rfl,rfl⟩,trivial⟩ ?_
  refine WO.v (R.move rfl) rfl ?_
  refine WO.nil ?_
  exact WX.aI rfl rfl (Kp.refl _)
 ·rintro vs wd kd ⟨-⟩
  refine WO.br (fr':=[(1,.int .i64 ((i:Nat):Int))]) ⟨⟨_,rfl,rfl⟩,trivial⟩ ?_
  refine WO.v (R.move rfl) rfl ?_
  refine WO.nil ?_
  exact WX.aI rfl rfl (Kp.refl _)
 ·rintro vs wd kd ⟨e5,e6,-⟩
  refine WO.br (fr':=[(51,.slice (some ⟨g,0,none⟩) n c),(52,.int .i64 ((i:Nat):Int))]) ⟨⟨_,rfl,e5⟩,⟨_,rfl,e6⟩,trivial⟩ ?_
  refine WO.v (R.cc rfl rfl Tryz.underlying22 cf (dp (by omega)) (by omega)) rfl ?_
  refine WO.nil ?_
  exact WX.aI rfl rfl (Kp.refl _)
 rintro vsx w1 k1 ⟨-,-,-,-,e4,-,-,e7,-⟩
 replace k1:Kp [] (W1.setRow b (cur.take (i*4)++vs++cur.drop (i*4+vs.length)).toArray) w1:=k1
 refine WO.br (fr':=[(50,.slice (some ⟨b,(i+1)*4,none⟩) (n+1 - (i+1)) (G - (i+1))),(53,.slice (some ⟨g,i*4,none⟩) (n - i) (c - i)),(9,.slice (some ⟨b,0,none⟩) (n+1) G)]) ⟨⟨_,rfl,e4⟩,⟨_,rfl,e7⟩,⟨_,rfl,rfl⟩,trivial⟩ ?_
 have hb2:w1.heap[b]? = some (.cells (List.toArray (cur.take (i*4)++vs++cur.drop (i*4+vs.length))) 44 (0,0)):=by rw [k1.block b (by simpa using ba hrow) (by simp)]; exact setRow_heap W1 b _ _ 44 _ hrow
 have hd2:CellsAt w1 ⟨g,i*4,none⟩ ds:=(hd.kp (Kp.setRow W1 b _) hgl (by simpa using hgb.symm)).kp k1 (by simpa using hgl) (by simp)
 refine WO.v (R.kZ rfl rfl Tryz.underlying22 cf hb2 hn2 hd2 (by simp only [List.length_append,List.length_take,List.length_drop]; omega) h1d) rfl ?_
 refine WO.nil ?_
 refine WX.next ?_
 refine WC.seq ?_
 refine WC.region ?_
 refine WO.v (R.move rfl) rfl ?_
 refine WO.v (R.assign rfl) rfl ?_
 refine WO.nil ?_
 refine WX.next ?_
 refine WC.ret ?_
 refine WX.gG ?_
 refine WX.tV rfl rfl ?_
 exact ⟨rfl,w1,k1,rfl⟩
set_option maxRecDepth 100000 in
set_option maxHeartbeats 1000000 in
theorem nD {w:World} {g n i c vc:Nat} {ad:Addr} {cur vs ds:List Value} {curA:Array Value} {tA:TypeId} {fA:Nat × Nat} (hi:i<n) (hc:n+1<=c) (hcm:c<=maxLen)
  (hrow:w.heap[g]? = some (.cells cur.toArray 44 (0,0))) (hcur:(n+1)*4<=cur.length) (hv:CellsAt w ad vs) (hvb:w.heap[ad.block]? = some (.cells curA tA fA)) (hvb0:curA.size≠0) (hne:ad.block≠g) (hvl:vs.length=4) (hd:CellsAt w ⟨g,i*4,none⟩ ds) (hdl:ds.length=(n - i)*4)
  (h1v:∀ u ∈ vs,u.oneCell' = true) (h1d:∀ u ∈ ds,u.oneCell' = true) :
  gQ Tryz.prog 36 [.slice (some ⟨g,0,none⟩) n c,.int .i64 (i:Int),.slice (some ad) 1 vc].toArray w fun v w'=>v = .slice (some ⟨g,0,none⟩) (n+1) c/\∃ w1,Kp [] w w1/\w' = (w1.setRow g (cur.take ((i+1)*4)++ds++cur.drop ((i+1)*4+ds.length)).toArray).setRow g ((cur.take ((i+1)*4)++ds++cur.drop ((i+1)*4+ds.length)).take (i*4)++vs++(cur.take ((i+1)*4)++ds++cur.drop ((i+1)*4+ds.length)).drop (i*4+vs.length)).toArray:=by
 have hcm:c<=9223372036854775807:=hcm
 have hn1:vs.length=Nat.min 1 (n+1 - i)*4:=by rw [show Nat.min 1 (n+1 - i)=1 from Nat.min_eq_left (by omega),Nat.one_mul]; exact hvl
 have hn2:ds.length=Nat.min (n+1 - i) (n+1 - (i+1))*4:=by rw [show Nat.min (n+1 - i) (n+1 - (i+1))=n+1 - (i+1) from Nat.min_eq_right (by omega),hdl]; congr 1; omega
 refine gQ.enter Tryz.func36 rfl rfl rfl rfl ?_
 refine WC.seq ?_
 refine WC.region ?_
 refine WO.v (R.assign rfl) rfl ?_
 refine WO.nil ?_
 refine WX.next ?_
 refine WC.seq ?_
 refine WC.region ?_
 refine WO.v (R.move rfl) rfl ?_
 refine WO.v (R.move rfl) rfl ?_
 refine WO.v (R.cc rfl rfl Tryz.underlying22 cf rfl (by omega)) rfl ?_
 refine WO.nil ?_
 refine WX.next ?_
 refine WC.seq ?_
 refine WC.region ?_
 refine WO.v (R.move rfl) rfl ?_
 refine WO.v (R.len rfl Tryz.underlying22) rfl ?_
 refine WO.v (R.assign rfl) rfl ?_
 refine WO.nil ?_
 refine WX.next ?_
 refine WC.seq ?_
 refine WC.seq ?_
 refine WC.region ?_
 refine WO.v (R.move rfl) rfl ?_
 refine WO.v (R.eql rfl rfl) rfl ?_
 refine WO.nil ?_
 refine WX.next ?_
 refine WC.cond rfl (fun q=>absurd (of_decide_eq_true q) (by omega)) (fun _=>?_)
 refine WC.skip ?_
 refine WX.next ?_
 refine WC.seq ?_
 refine WC.region ?_
 refine WO.v (R.move rfl) rfl ?_
 refine WO.v (R.len rfl Tryz.underlying22) rfl ?_
 refine WO.v (R.assign rfl) rfl ?_
 refine WO.nil ?_
 refine WX.next ?_
 refine WC.seq ?_
 refine WC.seq ?_
 refine WC.region ?_
 refine WO.v (R.move rfl) rfl ?_
 refine WO.v (R.move rfl) rfl ?_
 refine WO.v (R.eql rfl rfl) rfl ?_
 refine WO.nil ?_
 refine WX.next ?_
 refine WC.cond rfl (fun q=>absurd (of_decide_eq_true q) (by omega)) (fun _=>?_)
 refine WC.skip ?_
 refine WX.next ?_
 refine WC.seq ?_
 refine WC.seq ?_
 refine WC.region ?_
 refine WO.v (R.move rfl) rfl ?_
 refine WO.v (R.move rfl) rfl ?_
 refine WO.v (R.je rfl rfl (by omega)) rfl ?_
 refine WO.v (R.move rfl) rfl ?_
 refine WO.v (R.Ct rfl Tryz.underlying22) rfl ?_
 refine WO.v (R.gtr rfl rfl) rfl ?_
 refine WO.nil ?_
 refine WX.next ?_
 refine WC.cond rfl (fun q=>absurd (of_decide_eq_true q) (by omega)) (fun _=>?_)
 refine WC.skip ?_
 refine WX.next ?_
 refine WC.seq ?_
 refine WC.region ?_
 refine WO.v (R.move rfl) rfl ?_
 refine WO.v (R.move rfl) rfl ?_
 refine WO.v (R.move rfl) rfl ?_
 refine WO.v (R.je rfl rfl (by omega)) rfl ?_
 refine WO.v (R.jS rfl rfl Tryz.underlying22 cf (dp (i:=0) (by omega)) (by omega)) rfl ?_
 refine WO.v (R.assign rfl) rfl ?_
 refine WO.nil ?_
 refine WX.next ?_
 refine WC.seq ?_
 refine WC.seq ?_
 refine WC.region ?_
 refine WO.v (R.move rfl) rfl ?_
 refine WO.v (R.move rfl) rfl ?_
 refine WO.v (R.move rfl) rfl ?_
 refine WO.v (R.move rfl) rfl ?_
 refine WO.v (R.je rfl rfl (by omega)) rfl ?_
 refine WO.v (R.cc rfl rfl Tryz.underlying22 cf (dp (by omega)) (by omega)) rfl ?_
 refine WO.v (R.J_ (tS:=22) (tR:=4) Tryz.func87 rfl rfl (by kernel_rfl) (by kernel_rfl) Tryz.underlying22 cf hne hvb hvb0 hrow rfl rfl) rfl ?_
 refine WO.v (R.not rfl) rfl ?_
 refine WO.nil ?_
 refine WX.next ?_
 refine WC.xP rfl ?_
 refine WC.seq ?_
 refine WC.nW fU [.ex [] (.slice (some ⟨g,0,none⟩) (n+1) c),.ex [] (.int .i64 ((i:Nat):Int)),.ex [] (.int .i64 ((1:Nat):Int)),.ex [1,2] (.int .i64 ((i+1:Nat):Int)),.ex [0,3] (.slice (some ⟨g,(i+1)*4,none⟩) (n+1 - (i+1)) (c - (i+1))),.ex [] (.slice (some ⟨g,0,none⟩) (n+1) c),.ex [] (.int .i64 ((i:Nat):Int)),.ex [5,6] (.slice (some ⟨g,i*4,none⟩) (n+1 - i) (c - i))] 8 (by kernel_rfl) ⟨fun _ _ _ h _=>h,fun _ _ _ h _=>h,fun _ _ _ h _=>h,fun _ _ _ h _=>h,fun _ _ _ h _=>h,fun _ _ _ h _=>h,fun _ _ _ h _=>h,fun _ _ _ h _=>h,trivial⟩ ⟨?_,?_,?_,?_,?_,?_,?_,?_,trivial⟩ ?_
 ·rintro vs wd kd ⟨-⟩
  refine WO.br (fr':=[(0,.slice (some ⟨g,0,none⟩) (n+1) c)]) ⟨⟨_,rfl,rfl⟩,trivial⟩ ?_
  refine WO.v (R.move rfl) rfl ?_
  refine WO.nil ?_
  exact WX.aI rfl rfl (Kp.refl _)
 ·rintro vs wd kd ⟨-⟩
  refine WO.br (fr':=[(1,.int .i64 ((i:Nat):Int))]) ⟨⟨_,rfl,rfl⟩,trivial⟩ ?_
  refine WO.v (R.move rfl) rfl ?_
  refine WO.nil ?_
  exact WX.aI rfl rfl (Kp.refl _)
 ·rintro vs wd kd ⟨-⟩
  refine WO.br (fr':=[(7,.int .i64 ((1:Nat):Int))]) ⟨⟨_,rfl,rfl⟩,trivial⟩ ?_
  refine WO.v (R.move rfl) rfl ?_
  refine WO.nil ?_
  exact WX.aI rfl rfl (Kp.refl _)
 ·rintro vs wd kd ⟨e1,e2,-⟩
  refine WO.br (fr':=[(70,.int .i64 ((i:Nat):Int)),(71,.int .i64 ((1:Nat):Int))]) ⟨⟨_,rfl,e1⟩,⟨_,rfl,e2⟩,trivial⟩ ?_
  refine WO.v (R.je rfl rfl (by omega)) rfl ?_
  refine WO.nil ?_
  exact WX.aI rfl rfl (Kp.refl _)
 ·rintro vs wd kd ⟨e0,e3,-⟩
  refine WO.br (fr':=[(69,.slice (some ⟨g,0,none⟩) (n+1) c),(72,.int .i64 ((i+1:Nat):Int))]) ⟨⟨_,rfl,e0⟩,⟨_,rfl,e3⟩,trivial⟩ ?_
  refine WO.v (R.cc rfl rfl Tryz.underlying22 cf (dp (by omega)) (by omega)) rfl ?_
  refine WO.nil ?_
  exact WX.aI rfl rfl (Kp.refl _)
 ·rintro vs wd kd ⟨-⟩
  refine WO.br (fr':=[(0,.slice (some ⟨g,0,none⟩) (n+1) c)]) ⟨⟨_,rfl,rfl⟩,trivial⟩ ?_
  refine WO.v (R.move rfl) rfl ?_
  refine WO.nil ?_
  exact WX.aI rfl rfl (Kp.refl _)
 ·rintro vs wd kd ⟨-⟩
  refine WO.br (fr':=[(1,.int .i64 ((i:Nat):Int))]) ⟨⟨_,rfl,rfl⟩,trivial⟩ ?_
  refine WO.v (R.move rfl) rfl ?_
  refine WO.nil ?_
  exact WX.aI rfl rfl (Kp.refl _)
 ·rintro vs wd kd ⟨e5,e6,-⟩
  refine WO.br (fr':=[(74,.slice (some ⟨g,0,none⟩) (n+1) c),(75,.int .i64 ((i:Nat):Int))]) ⟨⟨_,rfl,e5⟩,⟨_,rfl,e6⟩,trivial⟩ ?_
  refine WO.v (R.cc rfl rfl Tryz.underlying22 cf (dp (by omega)) (by omega)) rfl ?_
  refine WO.nil ?_
  exact WX.aI rfl rfl (Kp.refl _)
 rintro vsx w1 k1 ⟨-,-,-,-,e4,-,-,e7,-⟩
 replace k1:Kp [] w w1:=k1
 refine WO.br (fr':=[(73,.slice (some ⟨g,(i+1)*4,none⟩) (n+1 - (i+1)) (c - (i+1))),(76,.slice (some ⟨g,i*4,none⟩) (n+1 - i) (c - i)),(0,.slice (some ⟨g,0,none⟩) (n+1) c),(1,.int .i64 ((i:Nat):Int)),(2,.slice (some ad) 1 vc)]) ⟨⟨_,rfl,e4⟩,⟨_,rfl,e7⟩,⟨_,rfl,rfl⟩,⟨_,rfl,rfl⟩,⟨_,rfl,rfl⟩,trivial⟩ ?_
 have hg1:w1.heap[g]? = some (.cells (List.toArray cur) 44 (0,0)):=by rw [k1.block g (ba hrow) (by simp)]; exact hrow
 refine WO.v (R.kZ rfl rfl Tryz.underlying22 cf hg1 hn2 (hd.kp k1 (ba hrow) (by simp)) (by omega) h1d) rfl ?_
 refine WO.nil ?_
 refine WX.next ?_
 have hg2:(w1.setRow g (cur.take ((i+1)*4)++ds++cur.drop ((i+1)*4+ds.length)).toArray).heap[g]? = some (.cells (List.toArray (cur.take ((i+1)*4)++ds++cur.drop ((i+1)*4+ds.length))) 44 (0,0)):=setRow_heap w1 g _ _ 44 _ hg1
 have hv2:CellsAt (w1.setRow g (cur.take ((i+1)*4)++ds++cur.drop ((i+1)*4+ds.length)).toArray) ad vs:=(hv.kp k1 (ba hvb) (by simp)).kp (Kp.setRow w1 g _) (Nat.lt_of_lt_of_le (ba hvb) k1.size) (by simpa using fun h=>hne h.symm)
 refine WC.seq ?_
 refine WC.region ?_
 refine WO.v (R.move rfl) rfl ?_
 refine WO.v (R.move rfl) rfl ?_
 refine WO.v (R.cc rfl rfl Tryz.underlying22 cf (dp (by omega)) (by omega)) rfl ?_
 refine WO.v (R.move rfl) rfl ?_
 refine WO.v (R.kZ rfl rfl Tryz.underlying22 cf hg2 hn1 hv2 (by simp only [List.length_append,List.length_take,List.length_drop]; omega) h1v) rfl ?_
 refine WO.nil ?_
 refine WX.next ?_
 refine WC.seq ?_
 refine WC.region ?_
 refine WO.v (R.move rfl) rfl ?_
 refine WO.v (R.assign rfl) rfl ?_
 refine WO.nil ?_
 refine WX.next ?_
 refine WC.ret ?_
 refine WX.gG ?_
 refine WX.tV rfl rfl ?_
 exact ⟨rfl,w1,k1,rfl⟩
theorem qO {G:Gl} {ρ:List RE} {H:AH} {w:World} (hs:G.shp=au aF) (hR:Rep G ρ H w) {l m:List (den (.nm .sess))} (hH:getO H 0 = .row 44 (.nm .sess) l) (hl:l.length<1048576) {i:Nat} (hi:i<=l.length) {v0:Value} (h0:Rd (cx G ρ w) ρ (.own 0) v0)
  {ad:Addr} {k:Nat} {cys:List Value} {bAV:AV} (hm:m.length=1) (hb:Rd (cx G ρ w) ρ bAV (.slice (some ad) 1 k)) (hbv:(bAV.vw H).fl (.nm .sess)=some m) (hv:CellsAt w ad cys) (hvl:cys.length=4) (h1v:∀ u ∈ cys,u.oneCell' = true) (hp:Pds (cx G ρ w) (m.flatMap (cellsOf (.nm .sess))) cys)
  (hne:∀ g c n z,ρ[0]? = some (.row g c n z)->ad.block≠g) {curA:Array Value} {tA:TypeId} {fA:Nat × Nat} (hvb:w.heap[ad.block]? = some (.cells curA tA fA)) (hvb0:curA.size≠0) :
  gQ Tryz.prog 36 [v0,.int .i64 (i:Int),.slice (some ad) 1 k].toArray w fun v w'=>∃ ρ',Stp (wZ 0) ρ w ρ' w' /\ Rep G ρ' ((ez (AV.kill 0) H).set 0 (.row 44 (.nm .sess) (l.take i++m++l.drop i))) w' /\ Rd (cx G ρ' w') ρ' (.own 0) v:=by
 have hT:bn Tryz.prog G.shp aF:=hs ▸ ga
 obtain ⟨hshp,hlen⟩:=cV hR hH
 have hl64:l.length<=9223372036854775807:=by omega
 have hin:((l.length:Nat):Int)<=9223372036854775807:=by omega
 by_cases hie:i=l.length
 ·subst hie
  have hc:∃ A c,v0 = .slice A l.length c:=by
   rcases h0 with ⟨g,cap,len,z,h1,rfl⟩ | ⟨h1,a,rfl⟩
   ·rcases bt hR hH with ⟨h2,_⟩ | ⟨g',cap',cells,sp,h2,_⟩
    ·rw [h1] at h2; cases h2
    ·rw [h1] at h2; cases h2; exact ⟨_,_,rfl⟩
   ·rcases bt hR hH with ⟨_,h2⟩ | ⟨g',cap',cells,sp,h2,_⟩
    ·subst h2; exact ⟨_,_,rfl⟩
    ·rw [h1] at h2; cases h2
  obtain ⟨A,c,rfl⟩:=hc
  refine rV fun F x y ty hx hy=>?_
  have happ:ft aF (wZ 0) ([]:AFr) H 22 (.own 0) bAV=some ⟨one (.own 0),[],(ez (AV.kill 0) H).set 0 (.row 44 (.nm .sess) (l++m)),[(l.length+m.length)*(Sh.nm NT.sess).bytes<=140737488355328],[]⟩:=by
   unfold ft
   rw [show bu aF 22=some ⟨.sl 44 (some (.nm .sess)),1,[.em true]⟩ from by kernel_rfl]
   simp only [hbv,hH]
   rfl
  obtain ⟨v,w',h1,ρ',h2,h3,_,h5,_⟩:=fy (P:=Tryz.prog) (n:=95) (F:=[]) (ty:=ty) (fr:=[]) (x:=.const (.slice A l.length c)) (y:=.const (.slice (some ad) 1 k)) hT hR .nil happ (by
   intro p hp
   rw [List.mem_singleton] at hp; subst hp
   show (l.length+m.length)*32<=_
   omega) h0 hb rfl rfl
  refine ⟨v,w',R.vi h1 hx hy,ρ',h2,?_,h5⟩
  rw [List.take_length,List.drop_length,List.append_nil]
  exact h3
 ·have hlt:i<l.length:=by omega
  rcases bt hR hH with ⟨_,h2⟩ | ⟨g,cap,cells,sp,hρ,hg,hpd,hsz,hcap,hmax⟩
  ·subst h2; simp at hlt
  obtain ⟨hnb,hil,hiH⟩:=kg hR hH
  have hv0:v0 = .slice (some ⟨g,0,none⟩) l.length cap:=by
   rcases h0 with ⟨g',cap',len,z,h1,rfl⟩ | ⟨h1,a,rfl⟩
   ·rw [hρ] at h1; cases h1; rfl
   ·rw [hρ] at h1; cases h1
  subst hv0
  have hz:(Sh.nm NT.sess).size=4:=rfl
  have hby:(Sh.nm NT.sess).bytes=32:=rfl
  have hcl:cells.length=l.length*4:=by rw [<- hpd.length,bH,hz]
  rw [hz,List.length_append] at hsz
  have hone:∀ u ∈ cells.drop (i*4),u.oneCell' = true:=fun u hu=>hpd.zg u (List.mem_of_mem_drop hu)
  have hd:CellsAt w ⟨g,i*4,none⟩ (cells.drop (i*4)):=by
   have:=(bV hg).shift (i*4)
   rwa [add_lit,Nat.zero_add] at this
  have hdl:(cells.drop (i*4)).length=(l.length - i)*4:=by rw [List.length_drop,hcl]; omega
  have hgl:=ba hg
  have hzl:(l.take i++m++l.drop i).length=l.length+1:=by
   rw [List.length_append,List.length_append,List.length_take,List.length_drop,hm]; omega
  have hnew:∀ {c:Cx},(cx G ρ w).le c->Pds c ((l.take i++m++l.drop i).flatMap (cellsOf (.nm .sess))) (cells.take (i*4)++cys++cells.drop (i*4)):=fun {c} hle=>by
   rw [List.flatMap_append,List.flatMap_append]
   exact (((bE hpd i).append hp).append (bQ hpd i)).carry hle
  have hnl:(cells.take (i*4)++cys++cells.drop (i*4)).length=(l.length+1)*4:=by
   rw [List.length_append,List.length_append,List.length_take,List.length_drop,hcl,hvl]; omega
  have hbig:(l.take i++m++l.drop i).length*(Sh.nm NT.sess).bytes<=140737488355328:=by rw [hzl,hby]; omega
  -- what is shown of any way
  have fin:∀ (S:List Nat) (g2 cap2:Nat) (sp2:List Value) (w':World),Kp S w w' -> (∀ b ∈ S,b=g)->(g2=g\/w.heap.size<=g2)->w'.heap[g2]? = some (.cells (List.toArray (cells.take (i*4)++cys++cells.drop (i*4)++sp2)) 44 (0,0))->(l.length+1)*4+sp2.length=cap2*4->l.length+1<=cap2->cap2<=maxLen ->
    ∃ ρ',Stp (wZ 0) ρ w ρ' w' /\ Rep G ρ' ((ez (AV.kill 0) H).set 0 (.row 44 (.nm .sess) (l.take i++m++l.drop i))) w' /\ Rd (cx G ρ' w') ρ' (.own 0) (.slice (some ⟨g2,0,none⟩) (l.length+1) cap2):=by
   intro S g2 cap2 sp2 w' hk hS hg2 hh hlen2 hle2 hmax2
   obtain ⟨k1,k2,_⟩:=iM (ro:=wZ 0) (s':=.nm .sess) (e':=44) (zs:=l.take i++m++l.drop i) hR hH ⟨rfl,rfl⟩ hk (fun b hb=>⟨_,hρ,by rw [hS b hb]; rfl⟩) (r':=.row g2 cap2 (l.take i++m++l.drop i).length (Sh.nm NT.sess).size) (fun b hb=>by
    cases hb
    rcases hg2 with rfl | hg2
    ·exact .inl ⟨_,hρ,rfl⟩
    ·exact .inr ⟨hg2,ba hh⟩) (fun hle=>⟨hshp,hbig,.inr ⟨g2,cap2,_,sp2,rfl,hh,hnew hle,by rw [List.length_append,hnl,hz]; exact hlen2,by rw [hzl]; exact hle2,hmax2⟩⟩)
   exact ⟨_,k1,k2,.inl ⟨g2,cap2,_,_,List.getElem?_set_self hil,by rw [hzl]⟩⟩
  have eo:(i+1)*4=i*4+4:=by omega
  by_cases hroom:l.length+1<=cap
  ·refine (nD hlt hroom hmax hg (by rw [List.length_append]; omega) hv hvb hvb0 (hne _ _ _ _ hρ) hvl hd hdl h1v hone).mono fun v w' ⟨e1,w1,k1,e2⟩=>?_
   subst e1; subst e2
   rw [eo,Ew (by omega) hvl]
   have hk:Kp [g] w ((w1.setRow g ((cells++sp).take (i*4+4)++cells.drop (i*4)++(cells++sp).drop (i*4+4+(cells.drop (i*4)).length)).toArray).setRow g (cells.take (i*4)++cys++cells.drop (i*4)++sp.drop 4).toArray):=((k1.sub (by simp)).step (Kp.setRow w1 g _) (by simp)).step (Kp.setRow _ g _) (by simp)
   have hg1:w1.heap[g]? = some (.cells (List.toArray (cells++sp)) 44 (0,0)):=by rw [k1.block g hgl (by simp)]; exact hg
   exact fin [g] g cap (sp.drop 4) _ hk (by simp) (.inl rfl) (setRow_heap _ g _ _ 44 _ (setRow_heap w1 g _ _ 44 _ hg1)) (by rw [List.length_drop]; omega) hroom hmax
  ·obtain ⟨ti,hi0,hz0,hz1,hz2⟩:=info_parts zw
   have eik:i+(l.length+1 - i)=l.length+1:=by omega
   have hge:=grownCap_ge w (l.length+1) cap 44
   have hgm:=grownCap_le_maxLen w (l.length+1) cap 44 (by simp [maxLen]; omega)
   have hold:(Builtin.firstCells ti.size i (.slice (some ⟨g,0*4,none⟩) i cap)).run Tryz.prog w.drew = .ok (cells.take (i*4)).toArray w.drew:=by
    have h:=run_loadCells_list (P:=Tryz.prog) w.drew ⟨g,0*4,none⟩ (cells.take (i*4)) (by rw [Nat.zero_mul]; exact (bV hg).take _)
    rw [List.length_take,Nat.min_eq_left (by omega)] at h
    rw [hz1]; exact h
   have happ:∀ (F:Fr) (x y:Operand) (ty:TypeId),ev F x=some (.slice (some ⟨g,0*4,none⟩) i cap)->ev F y=some (.int .i64 ((l.length+1 - i:Nat):Int))->aL Tryz.prog 95 F w (.call { callee:=.builtin .append,args:=#[x,y],argTypes:=#[22,3] }) ty (.slice (some ⟨w.heap.size,0,none⟩) (l.length+1) (grownCap w (l.length+1) cap 44)) (w.drew.alloc (.cells (List.toArray (cells.take (i*4)++((Builtin.zeroCells (Value.agg #[.int .i64 0,.int .i64 0,.int .i64 0,.int .i64 0]).cells (l.length+1 - i)).toList++(Builtin.zeroCells (Value.agg #[.int .i64 0,.int .i64 0,.int .i64 0,.int .i64 0]).cells (grownCap w (l.length+1) cap 44 - (l.length+1))).toList))) 44)):=fun F x y ty hx hy=>by
    have h:=R.Ix (P:=Tryz.prog) (n:=95) (ty:=ty) hx hy Tryz.underlying22 Tryz.underlying3 hi0 hz0 hold (by omega) (by rw [hz1]; decide) (by omega) (by omega) (by rw [hz2]; omega) (by rw [hz2,eik]; exact growslice_fits (by omega) (by omega))
    rw [eik] at h
    have e:∀ (a:List Value) (b c:Array Value),a.toArray++b++c=(a++(b.toList++c.toList)).toArray:=fun a b c=>by apply Array.ext'; simp
    rw [e] at h
    exact h
   have hcurl:(cells.take (i*4)++((Builtin.zeroCells (Value.agg #[.int .i64 0,.int .i64 0,.int .i64 0,.int .i64 0]).cells (l.length+1 - i)).toList++(Builtin.zeroCells (Value.agg #[.int .i64 0,.int .i64 0,.int .i64 0,.int .i64 0]).cells (grownCap w (l.length+1) cap 44 - (l.length+1))).toList)).length=grownCap w (l.length+1) cap 44*4:=by
    rw [List.length_append,List.length_append,List.length_take,lU,lU]
    show min _ _+((l.length+1 - i)*4+(grownCap w (l.length+1) cap 44 - (l.length+1))*4)=_
    omega
   have htk:(cells.take (i*4)++((Builtin.zeroCells (Value.agg #[.int .i64 0,.int .i64 0,.int .i64 0,.int .i64 0]).cells (l.length+1 - i)).toList++(Builtin.zeroCells (Value.agg #[.int .i64 0,.int .i64 0,.int .i64 0,.int .i64 0]).cells (grownCap w (l.length+1) cap 44 - (l.length+1))).toList)).take (i*4)=cells.take (i*4):=List.take_left' (by rw [List.length_take]; omega)
   generalize grownCap w (l.length+1) cap 44=GC at *
   generalize cells.take (i*4)++((Builtin.zeroCells (Value.agg #[.int .i64 0,.int .i64 0,.int .i64 0,.int .i64 0]).cells (l.length+1 - i)).toList++(Builtin.zeroCells (Value.agg #[.int .i64 0,.int .i64 0,.int .i64 0,.int .i64 0]).cells (GC - (l.length+1))).toList)=cur at *
   have hK1:Kp [] w (w.drew.alloc (.cells (List.toArray cur) 44)):=((Kp.refl w).drew).step (Kp.alloc w.drew _) (by simp)
   have hrow:(w.drew.alloc (.cells (List.toArray cur) 44)).heap[w.heap.size]? = some (.cells (List.toArray cur) 44 (0,0)):=heap_alloc_new w.drew _
   generalize w.drew.alloc (.cells (List.toArray cur) 44)=W1 at *
   refine (pE hlt hcap (by omega) hmax hge hgm happ hrow (by omega) (hv.kp hK1 (ba hvb) (by simp)) hvl (hd.kp hK1 hgl (by simp)) (by omega) (Nat.lt_of_lt_of_le hgl hK1.size) hdl h1v hone).mono fun v w' ⟨e1,w1,k1,e2⟩=>?_
   subst e1; subst e2
   rw [eo,EC (cells:=cells) (by omega) hvl htk]
   have hs1:∀ b ∈ [w.heap.size],b ∈ ([]:List Nat)\/w.heap.size<=b:=fun b hb=>.inr (by rw [List.mem_singleton] at hb; omega)
   have hk:Kp [] w (w1.setRow w.heap.size (cells.take (i*4)++cys++cells.drop (i*4)++cur.drop (i*4+4+(cells.drop (i*4)).length)).toArray):=((hK1.step (Kp.setRow W1 w.heap.size _) hs1).step k1 (by simp)).step (Kp.setRow w1 w.heap.size _) hs1
   have hg1:=(k1.block w.heap.size (by simpa using ba hrow) (by simp)).trans (setRow_heap W1 w.heap.size _ (cur.take (i*4)++cys++cur.drop (i*4+cys.length)).toArray 44 _ hrow)
   exact fin [] w.heap.size GC _ _ hk (by simp) (.inr (Nat.le_refl _)) (setRow_heap w1 w.heap.size _ _ 44 _ hg1) (by rw [List.length_drop]; omega) hge hgm
theorem qh (i:Int) (l m:List (den (.nm .sess))) (h:0<=i/\i<=(l.length:Int)) (hl:l.length<1048576) (hm:m.length=1):Sat Tryz.prog (au aF) 36 [.c (.own 0),.c (.int i),.c (.own 1)] [.row 44 (.nm .sess) l,.row 44 (.nm .sess) m] ⟨[0<=i/\i<=(l.length:Int),l.length<1048576,m.length=1],[.c (.own 0)],some [.row 44 (.nm .sess) (l.take i.toNat++m++l.drop i.toNat),.row 44 (.nm .sess) m],false⟩:=by
 refine ⟨⟨_,Tryz.func36,by decide,rfl⟩,fun G ρ w vs hs hR hvs=>?_⟩
 obtain ⟨i,rfl⟩:=Int.eq_ofNat_of_zero_le h.1
 cases hvs with | cons h0 hvs=>
 cases hvs with | cons h1 hvs=>
 cases hvs with | cons h2 hvs=>
 cases hvs
 have h1:Pd (cx G ρ w) (.int (i:Int)) _:=h1
 cases h1
 have h0:Rd (cx G ρ w) ρ (.own 0) _:=h0
 have h2:Rd (cx G ρ w) ρ (.own 1) _:=h2
 have hH:getO [AO.row 44 (.nm .sess) l,.row 44 (.nm .sess) m] 0 = .row 44 (.nm .sess) l:=rfl
 have hbv:(AV.vw [AO.row 44 (.nm .sess) l,.row 44 (.nm .sess) m] (.own 1)).fl (.nm .sess)=some m:=by simp [AV.vw,AV.fl,getO]
 obtain ⟨A,k,cys,rfl,s1,s2,s3,s4⟩:=nt hR hbv h2
 rw [hm] at h2 s1 s3
 rw [hm]
 obtain ⟨ad,rfl,s5⟩:∃ ad,A=some ad/\CellsAt w ad cys:=s3.resolve_left (by decide)
 have hz:(Sh.nm NT.sess).size=4:=rfl
 rw [hz] at s1
 obtain ⟨u,hu⟩:∃ u,cys[0]? = some u:=⟨_,List.getElem?_eq_getElem (by omega)⟩
 obtain ⟨cur,t,f,hc,hc0⟩:=nL (s5 0 u hu)
 have hne:∀ g c n z,ρ[0]? = some (.row g c n z)->ad.block≠g:=fun g c n z hg e=>by
  rcases h2 with ⟨g',cap',len,z',h3,h4⟩ | ⟨h3,a,h4⟩
  ·cases h4
   have:=hR.inj 0 1 _ _ g hg h3 rfl (by rw [<- e]; rfl)
   omega
  ·cases h4
 rw [eT] at hc
 refine (qO hs hR hH hl (by omega) h0 hm h2 hbv s5 s1 s2 s4 hne hc hc0).mono fun v w' ⟨ρ',k1,k2,k3⟩=>?_
 exact ⟨[v],rfl,ρ',k2,k1.ext,k1.bx,.cons k3 .nil,fun hb=>by cases hb⟩
theorem ck:(Tryz.prog.info? 77).map (·.size)=some 2:=by kernel_rfl
theorem vS:(Tryz.prog.info? 77).map (fun i=>(i.zero,i.size,i.bytes))=some (some (.agg #[.int .i64 0,.int .i64 0]),2,16):=by kernel_rfl
set_option maxRecDepth 100000 in
set_option maxHeartbeats 1000000 in
theorem tI {w:World} {n c vc:Nat} {A:Option Addr} {B:Option Addr} {φ:Value->World->Prop} (happ:∀ (F:Fr) (x y:Operand) (ty:TypeId),ev F x=some (.slice A n c)->ev F y=some (.slice B 1 vc)->∃ v2 w2,aL Tryz.prog 95 F w (.call { callee:=.builtin .append,args:=#[x,y],argTypes:=#[23,23] }) ty v2 w2/\φ v2 w2) :
  gQ Tryz.prog 92 [.slice A n c,.int .i64 (n:Int),.slice B 1 vc].toArray w φ:=by
 refine gQ.enter Tryz.func92 rfl rfl rfl rfl ?_
 refine WC.seq ?_
 refine WC.region ?_
 refine WO.v (R.assign rfl) rfl ?_
 refine WO.nil ?_
 refine WX.next ?_
 refine WC.seq ?_
 refine WC.region ?_
 refine WO.v (R.move rfl) rfl ?_
 refine WO.v (R.move rfl) rfl ?_
 refine WO.v (R.cc rfl rfl Tryz.underlying23 ck rfl (by omega)) rfl ?_
 refine WO.nil ?_
 refine WX.next ?_
 refine WC.seq ?_
 refine WC.region ?_
 refine WO.v (R.move rfl) rfl ?_
 refine WO.v (R.len rfl Tryz.underlying23) rfl ?_
 refine WO.v (R.assign rfl) rfl ?_
 refine WO.nil ?_
 refine WX.next ?_
 refine WC.seq ?_
 refine WC.seq ?_
 refine WC.region ?_
 refine WO.v (R.move rfl) rfl ?_
 refine WO.v (R.eql rfl rfl) rfl ?_
 refine WO.nil ?_
 refine WX.next ?_
 refine WC.cond rfl (fun q=>absurd (of_decide_eq_true q) (by omega)) (fun _=>?_)
 refine WC.skip ?_
 refine WX.next ?_
 refine WC.seq ?_
 refine WC.region ?_
 refine WO.v (R.move rfl) rfl ?_
 refine WO.v (R.len rfl Tryz.underlying23) rfl ?_
 refine WO.v (R.assign rfl) rfl ?_
 refine WO.nil ?_
 refine WX.next ?_
 refine WC.seq ?_
 refine WC.seq ?_
 refine WC.region ?_
 refine WO.v (R.move rfl) rfl ?_
 refine WO.v (R.move rfl) rfl ?_
 refine WO.v (R.eql rfl rfl) rfl ?_
 refine WO.nil ?_
 refine WX.next ?_
 refine WC.cond rfl (fun _=>?_) (fun q=>absurd rfl (of_decide_eq_false q))
 refine WC.seq ?_
 refine WC.region ?_
 refine WO.v (R.move rfl) rfl ?_
 refine WO.v (R.move rfl) rfl ?_
 refine WO.ve (happ _ _ _ _ rfl rfl) rfl fun v2 w2 hv2=>?_
 refine WO.v (R.assign rfl) rfl ?_
 refine WO.nil ?_
 refine WX.next ?_
 refine WC.ret ?_
 refine WX.gG ?_
 refine WX.tV rfl rfl ?_
 exact hv2
set_option maxRecDepth 100000 in
set_option maxHeartbeats 1000000 in
theorem rm {w W1:World} {g b n i c vc G:Nat} {ad:Addr} {cur vs ds:List Value} (hi:i<n) (hnc:n<=c) (hc:c<n+1) (hcm:c<=maxLen) (hG:n+1<=G) (hGm:G<=maxLen)
  (happ:∀ (F:Fr) (x y:Operand) (ty:TypeId),ev F x=some (.slice (some ⟨g,0*2,none⟩) i c)->ev F y=some (.int .i64 ((n+1 - i:Nat):Int))->aL Tryz.prog 95 F w (.call { callee:=.builtin .append,args:=#[x,y],argTypes:=#[23,3] }) ty (.slice (some ⟨b,0,none⟩) (n+1) G) W1)
  (hrow:W1.heap[b]? = some (.cells cur.toArray 77 (0,0))) (hcur:(n+1)*2<=cur.length) (hv:CellsAt W1 ad vs) (hvl:vs.length=2) (hd:CellsAt W1 ⟨g,i*2,none⟩ ds) (hgb:g≠b) (hgl:g<W1.heap.size) (hdl:ds.length=(n - i)*2)
  (h1v:∀ u ∈ vs,u.oneCell' = true) (h1d:∀ u ∈ ds,u.oneCell' = true) :
  gQ Tryz.prog 92 [.slice (some ⟨g,0,none⟩) n c,.int .i64 (i:Int),.slice (some ad) 1 vc].toArray w fun v w'=>v = .slice (some ⟨b,0,none⟩) (n+1) G/\∃ w1,Kp [] (W1.setRow b (cur.take (i*2)++vs++cur.drop (i*2+vs.length)).toArray) w1/\w' = w1.setRow b ((cur.take (i*2)++vs++cur.drop (i*2+vs.length)).take ((i+1)*2)++ds++(cur.take (i*2)++vs++cur.drop (i*2+vs.length)).drop ((i+1)*2+ds.length)).toArray:=by
 have hGm:G<=9223372036854775807:=hGm
 have hcm:c<=9223372036854775807:=hcm
 have hn1:vs.length=Nat.min 1 (n+1 - i)*2:=by rw [show Nat.min 1 (n+1 - i)=1 from Nat.min_eq_left (by omega),Nat.one_mul]; exact hvl
 have hn2:ds.length=Nat.min (n - i) (n+1 - (i+1))*2:=by rw [show Nat.min (n - i) (n+1 - (i+1))=n - i from Nat.min_eq_left (by omega)]; exact hdl
 refine gQ.enter Tryz.func92 rfl rfl rfl rfl ?_
 refine WC.seq ?_
 refine WC.region ?_
 refine WO.v (R.assign rfl) rfl ?_
 refine WO.nil ?_
 refine WX.next ?_
 refine WC.seq ?_
 refine WC.region ?_
 refine WO.v (R.move rfl) rfl ?_
 refine WO.v (R.move rfl) rfl ?_
 refine WO.v (R.cc rfl rfl Tryz.underlying23 ck rfl (by omega)) rfl ?_
 refine WO.nil ?_
 refine WX.next ?_
 refine WC.seq ?_
 refine WC.region ?_
 refine WO.v (R.move rfl) rfl ?_
 refine WO.v (R.len rfl Tryz.underlying23) rfl ?_
 refine WO.v (R.assign rfl) rfl ?_
 refine WO.nil ?_
 refine WX.next ?_
 refine WC.seq ?_
 refine WC.seq ?_
 refine WC.region ?_
 refine WO.v (R.move rfl) rfl ?_
 refine WO.v (R.eql rfl rfl) rfl ?_
 refine WO.nil ?_
 refine WX.next ?_
 refine WC.cond rfl (fun q=>absurd (of_decide_eq_true q) (by omega)) (fun _=>?_)
 refine WC.skip ?_
 refine WX.next ?_
 refine WC.seq ?_
 refine WC.region ?_
 refine WO.v (R.move rfl) rfl ?_
 refine WO.v (R.len rfl Tryz.underlying23) rfl ?_
 refine WO.v (R.assign rfl) rfl ?_
 refine WO.nil ?_
 refine WX.next ?_
 refine WC.seq ?_
 refine WC.seq ?_
 refine WC.region ?_
 refine WO.v (R.move rfl) rfl ?_
 refine WO.v (R.move rfl) rfl ?_
 refine WO.v (R.eql rfl rfl) rfl ?_
 refine WO.nil ?_
 refine WX.next ?_
 refine WC.cond rfl (fun q=>absurd (of_decide_eq_true q) (by omega)) (fun _=>?_)
 refine WC.skip ?_
 refine WX.next ?_
 refine WC.seq ?_
 refine WC.seq ?_
 refine WC.region ?_
 refine WO.v (R.move rfl) rfl ?_
 refine WO.v (R.move rfl) rfl ?_
 refine WO.v (R.je rfl rfl (by omega)) rfl ?_
 refine WO.v (R.move rfl) rfl ?_
 refine WO.v (R.Ct rfl Tryz.underlying23) rfl ?_
 refine WO.v (R.gtr rfl rfl) rfl ?_
 refine WO.nil ?_
 refine WX.next ?_
 refine WC.cond rfl (fun _=>?_) (fun q=>absurd (by omega) (of_decide_eq_false q))
 refine WC.seq ?_
 refine WC.region ?_
 refine WO.v (R.move rfl) rfl ?_
 refine WO.v (R.move rfl) rfl ?_
 refine WO.v (R.jS rfl rfl Tryz.underlying23 ck (dp (i:=0) (by omega)) (by omega)) rfl ?_
 refine WO.v (R.move rfl) rfl ?_
 refine WO.v (R.move rfl) rfl ?_
 refine WO.v (R.je rfl rfl (by omega)) rfl ?_
 refine WO.v (R.move rfl) rfl ?_
 refine WO.v (R.It rfl rfl (by omega) (by omega)) rfl ?_
 refine WO.v (happ _ _ _ _ rfl rfl) rfl ?_
 refine WO.v (R.assign rfl) rfl ?_
 refine WO.nil ?_
 refine WX.next ?_
 refine WC.seq ?_
 refine WC.region ?_
 refine WO.v (R.move rfl) rfl ?_
 refine WO.v (R.move rfl) rfl ?_
 refine WO.v (R.cc rfl rfl Tryz.underlying23 ck (dp (by omega)) (by omega)) rfl ?_
 refine WO.v (R.move rfl) rfl ?_
 refine WO.v (R.kZ rfl rfl Tryz.underlying23 ck hrow hn1 hv (by omega) h1v) rfl ?_
 refine WO.nil ?_
 refine WX.next ?_
 refine WC.seq ?_
 refine WC.nW fU [.ex [] (.slice (some ⟨b,0,none⟩) (n+1) G),.ex [] (.int .i64 ((i:Nat):Int)),.ex [] (.int .i64 ((1:Nat):Int)),.ex [1,2] (.int .i64 ((i+1:Nat):Int)),.ex [0,3] (.slice (some ⟨b,(i+1)*2,none⟩) (n+1 - (i+1)) (G - (i+1))),.ex [] (.slice (some ⟨g,0,none⟩) n c),.ex [] (.int .i64 ((i:Nat):Int)),.ex [5,6] (.slice (some ⟨g,i*2,none⟩) (n - i) (c - i))] 8 (by kernel_rfl) ⟨fun _ _ _ h _=>h,fun _ _ _ h _=>h,fun _ _ _ h _=>h,fun _ _ _ h _=>h,fun _ _ _ h _=>h,fun _ _ _ h _=>h,fun _ _ _ h _=>h,fun _ _ _ h _=>h,trivial⟩ ⟨?_,?_,?_,?_,?_,?_,?_,?_,trivial⟩ ?_
 ·rintro vs wd kd ⟨-⟩
  refine WO.br (fr':=[(9,.slice (some ⟨b,0,none⟩) (n+1) G)]) ⟨⟨_,rfl,rfl⟩,trivial⟩ ?_
  refine WO.v (R.move rfl) rfl ?_
  refine WO.nil ?_
  exact WX.aI rfl rfl (Kp.refl _)
 ·rintro vs wd kd ⟨-⟩
  refine WO.br (fr':=[(1,.int .i64 ((i:Nat):Int))]) ⟨⟨_,rfl,rfl⟩,trivial⟩ ?_
  refine WO.v (R.move rfl) rfl ?_
  refine WO.nil ?_
  exact WX.aI rfl rfl (Kp.refl _)
 ·rintro vs wd kd ⟨-⟩
  refine WO.br (fr':=[(7,.int .i64 ((1:Nat):Int))]) ⟨⟨_,rfl,rfl⟩,trivial⟩ ?_
  refine WO.v (R.move rfl) rfl ?_
  refine WO.nil ?_
  exact WX.aI rfl rfl (Kp.refl _)
 ·rintro vs wd kd ⟨e1,e2,-⟩
  refine WO.br (fr':=[(47,.int .i64 ((i:Nat):Int)),(48,.int .i64 ((1:Nat):Int))]) ⟨⟨_,rfl,e1⟩,⟨_,rfl,e2⟩,trivial⟩ ?_
  refine WO.v (R.je rfl rfl (by omega)) rfl ?_
  refine WO.nil ?_
  exact WX.aI rfl rfl (Kp.refl _)
 ·rintro vs wd kd ⟨e0,e3,-⟩
  refine WO.br (fr':=[(46,.slice (some ⟨b,0,none⟩) (n+1) G),(49,.int .i64 ((i+1:Nat):Int))]) ⟨⟨_,rfl,e0⟩,⟨_,rfl,e3⟩,trivial⟩ ?_
  refine WO.v (R.cc rfl rfl Tryz.underlying23 ck (dp (by omega)) (by omega)) rfl ?_
  refine WO.nil ?_
  exact WX.aI rfl rfl (Kp.refl _)
 ·rintro vs wd kd ⟨-⟩
  refine WO.br (fr':=[(0,.slice (some ⟨g,0,none⟩) n c)]) ⟨⟨_,rfl,rfl⟩,trivial⟩ ?_
  refine WO.v (R.move rfl) rfl ?_
  refine WO.nil ?_
  exact WX.aI rfl rfl (Kp.refl _)
 ·rintro vs wd kd ⟨-⟩
  refine WO.br (fr':=[(1,.int .i64 ((i:Nat):Int))]) ⟨⟨_,rfl,rfl⟩,trivial⟩ ?_
  refine WO.v (R.move rfl) rfl ?_
  refine WO.nil ?_
  exact WX.aI rfl rfl (Kp.refl _)
 ·rintro vs wd kd ⟨e5,e6,-⟩
  refine WO.br (fr':=[(51,.slice (some ⟨g,0,none⟩) n c),(52,.int .i64 ((i:Nat):Int))]) ⟨⟨_,rfl,e5⟩,⟨_,rfl,e6⟩,trivial⟩ ?_
  refine WO.v (R.cc rfl rfl Tryz.underlying23 ck (dp (by omega)) (by omega)) rfl ?_
  refine WO.nil ?_
  exact WX.aI rfl rfl (Kp.refl _)
 rintro vsx w1 k1 ⟨-,-,-,-,e4,-,-,e7,-⟩
 replace k1:Kp [] (W1.setRow b (cur.take (i*2)++vs++cur.drop (i*2+vs.length)).toArray) w1:=k1
 refine WO.br (fr':=[(50,.slice (some ⟨b,(i+1)*2,none⟩) (n+1 - (i+1)) (G - (i+1))),(53,.slice (some ⟨g,i*2,none⟩) (n - i) (c - i)),(9,.slice (some ⟨b,0,none⟩) (n+1) G)]) ⟨⟨_,rfl,e4⟩,⟨_,rfl,e7⟩,⟨_,rfl,rfl⟩,trivial⟩ ?_
 have hb2:w1.heap[b]? = some (.cells (List.toArray (cur.take (i*2)++vs++cur.drop (i*2+vs.length))) 77 (0,0)):=by rw [k1.block b (by simpa using ba hrow) (by simp)]; exact setRow_heap W1 b _ _ 77 _ hrow
 have hd2:CellsAt w1 ⟨g,i*2,none⟩ ds:=(hd.kp (Kp.setRow W1 b _) hgl (by simpa using hgb.symm)).kp k1 (by simpa using hgl) (by simp)
 refine WO.v (R.kZ rfl rfl Tryz.underlying23 ck hb2 hn2 hd2 (by simp only [List.length_append,List.length_take,List.length_drop]; omega) h1d) rfl ?_
 refine WO.nil ?_
 refine WX.next ?_
 refine WC.seq ?_
 refine WC.region ?_
 refine WO.v (R.move rfl) rfl ?_
 refine WO.v (R.assign rfl) rfl ?_
 refine WO.nil ?_
 refine WX.next ?_
 refine WC.ret ?_
 refine WX.gG ?_
 refine WX.tV rfl rfl ?_
 exact ⟨rfl,w1,k1,rfl⟩
set_option maxRecDepth 100000 in
set_option maxHeartbeats 1000000 in
theorem pq {w:World} {g n i c vc:Nat} {ad:Addr} {cur vs ds:List Value} {curA:Array Value} {tA:TypeId} {fA:Nat × Nat} (hi:i<n) (hc:n+1<=c) (hcm:c<=maxLen)
  (hrow:w.heap[g]? = some (.cells cur.toArray 77 (0,0))) (hcur:(n+1)*2<=cur.length) (hv:CellsAt w ad vs) (hvb:w.heap[ad.block]? = some (.cells curA tA fA)) (hvb0:curA.size≠0) (hne:ad.block≠g) (hvl:vs.length=2) (hd:CellsAt w ⟨g,i*2,none⟩ ds) (hdl:ds.length=(n - i)*2)
  (h1v:∀ u ∈ vs,u.oneCell' = true) (h1d:∀ u ∈ ds,u.oneCell' = true) :
  gQ Tryz.prog 92 [.slice (some ⟨g,0,none⟩) n c,.int .i64 (i:Int),.slice (some ad) 1 vc].toArray w fun v w'=>v = .slice (some ⟨g,0,none⟩) (n+1) c/\∃ w1,Kp [] w w1/\w' = (w1.setRow g (cur.take ((i+1)*2)++ds++cur.drop ((i+1)*2+ds.length)).toArray).setRow g ((cur.take ((i+1)*2)++ds++cur.drop ((i+1)*2+ds.length)).take (i*2)++vs++(cur.take ((i+1)*2)++ds++cur.drop ((i+1)*2+ds.length)).drop (i*2+vs.length)).toArray:=by
 have hcm:c<=9223372036854775807:=hcm
 have hn1:vs.length=Nat.min 1 (n+1 - i)*2:=by rw [show Nat.min 1 (n+1 - i)=1 from Nat.min_eq_left (by omega),Nat.one_mul]; exact hvl
 have hn2:ds.length=Nat.min (n+1 - i) (n+1 - (i+1))*2:=by rw [show Nat.min (n+1 - i) (n+1 - (i+1))=n+1 - (i+1) from Nat.min_eq_right (by omega),hdl]; congr 1; omega
 refine gQ.enter Tryz.func92 rfl rfl rfl rfl ?_
 refine WC.seq ?_
 refine WC.region ?_
 refine WO.v (R.assign rfl) rfl ?_
 refine WO.nil ?_
 refine WX.next ?_
 refine WC.seq ?_
 refine WC.region ?_
 refine WO.v (R.move rfl) rfl ?_
 refine WO.v (R.move rfl) rfl ?_
 refine WO.v (R.cc rfl rfl Tryz.underlying23 ck rfl (by omega)) rfl ?_
 refine WO.nil ?_
 refine WX.next ?_
 refine WC.seq ?_
 refine WC.region ?_
 refine WO.v (R.move rfl) rfl ?_
 refine WO.v (R.len rfl Tryz.underlying23) rfl ?_
 refine WO.v (R.assign rfl) rfl ?_
 refine WO.nil ?_
 refine WX.next ?_
 refine WC.seq ?_
 refine WC.seq ?_
 refine WC.region ?_
 refine WO.v (R.move rfl) rfl ?_
 refine WO.v (R.eql rfl rfl) rfl ?_
 refine WO.nil ?_
 refine WX.next ?_
 refine WC.cond rfl (fun q=>absurd (of_decide_eq_true q) (by omega)) (fun _=>?_)
 refine WC.skip ?_
 refine WX.next ?_
 refine WC.seq ?_
 refine WC.region ?_
 refine WO.v (R.move rfl) rfl ?_
 refine WO.v (R.len rfl Tryz.underlying23) rfl ?_
 refine WO.v (R.assign rfl) rfl ?_
 refine WO.nil ?_
 refine WX.next ?_
 refine WC.seq ?_
 refine WC.seq ?_
 refine WC.region ?_
 refine WO.v (R.move rfl) rfl ?_
 refine WO.v (R.move rfl) rfl ?_
 refine WO.v (R.eql rfl rfl) rfl ?_
 refine WO.nil ?_
 refine WX.next ?_
 refine WC.cond rfl (fun q=>absurd (of_decide_eq_true q) (by omega)) (fun _=>?_)
 refine WC.skip ?_
 refine WX.next ?_
 refine WC.seq ?_
 refine WC.seq ?_
 refine WC.region ?_
 refine WO.v (R.move rfl) rfl ?_
 refine WO.v (R.move rfl) rfl ?_
 refine WO.v (R.je rfl rfl (by omega)) rfl ?_
 refine WO.v (R.move rfl) rfl ?_
 refine WO.v (R.Ct rfl Tryz.underlying23) rfl ?_
 refine WO.v (R.gtr rfl rfl) rfl ?_
 refine WO.nil ?_
 refine WX.next ?_
 refine WC.cond rfl (fun q=>absurd (of_decide_eq_true q) (by omega)) (fun _=>?_)
 refine WC.skip ?_
 refine WX.next ?_
 refine WC.seq ?_
 refine WC.region ?_
 refine WO.v (R.move rfl) rfl ?_
 refine WO.v (R.move rfl) rfl ?_
 refine WO.v (R.move rfl) rfl ?_
 refine WO.v (R.je rfl rfl (by omega)) rfl ?_
 refine WO.v (R.jS rfl rfl Tryz.underlying23 ck (dp (i:=0) (by omega)) (by omega)) rfl ?_
 refine WO.v (R.assign rfl) rfl ?_
 refine WO.nil ?_
 refine WX.next ?_
 refine WC.seq ?_
 refine WC.seq ?_
 refine WC.region ?_
 refine WO.v (R.move rfl) rfl ?_
 refine WO.v (R.move rfl) rfl ?_
 refine WO.v (R.move rfl) rfl ?_
 refine WO.v (R.move rfl) rfl ?_
 refine WO.v (R.je rfl rfl (by omega)) rfl ?_
 refine WO.v (R.cc rfl rfl Tryz.underlying23 ck (dp (by omega)) (by omega)) rfl ?_
 refine WO.v (R.J_ (tS:=23) (tR:=4) Tryz.func124 rfl rfl (by kernel_rfl) (by kernel_rfl) Tryz.underlying23 ck hne hvb hvb0 hrow rfl rfl) rfl ?_
 refine WO.v (R.not rfl) rfl ?_
 refine WO.nil ?_
 refine WX.next ?_
 refine WC.xP rfl ?_
 refine WC.seq ?_
 refine WC.nW fU [.ex [] (.slice (some ⟨g,0,none⟩) (n+1) c),.ex [] (.int .i64 ((i:Nat):Int)),.ex [] (.int .i64 ((1:Nat):Int)),.ex [1,2] (.int .i64 ((i+1:Nat):Int)),.ex [0,3] (.slice (some ⟨g,(i+1)*2,none⟩) (n+1 - (i+1)) (c - (i+1))),.ex [] (.slice (some ⟨g,0,none⟩) (n+1) c),.ex [] (.int .i64 ((i:Nat):Int)),.ex [5,6] (.slice (some ⟨g,i*2,none⟩) (n+1 - i) (c - i))] 8 (by kernel_rfl) ⟨fun _ _ _ h _=>h,fun _ _ _ h _=>h,fun _ _ _ h _=>h,fun _ _ _ h _=>h,fun _ _ _ h _=>h,fun _ _ _ h _=>h,fun _ _ _ h _=>h,fun _ _ _ h _=>h,trivial⟩ ⟨?_,?_,?_,?_,?_,?_,?_,?_,trivial⟩ ?_
 ·rintro vs wd kd ⟨-⟩
  refine WO.br (fr':=[(0,.slice (some ⟨g,0,none⟩) (n+1) c)]) ⟨⟨_,rfl,rfl⟩,trivial⟩ ?_
  refine WO.v (R.move rfl) rfl ?_
  refine WO.nil ?_
  exact WX.aI rfl rfl (Kp.refl _)
 ·rintro vs wd kd ⟨-⟩
  refine WO.br (fr':=[(1,.int .i64 ((i:Nat):Int))]) ⟨⟨_,rfl,rfl⟩,trivial⟩ ?_
  refine WO.v (R.move rfl) rfl ?_
  refine WO.nil ?_
  exact WX.aI rfl rfl (Kp.refl _)
 ·rintro vs wd kd ⟨-⟩
  refine WO.br (fr':=[(7,.int .i64 ((1:Nat):Int))]) ⟨⟨_,rfl,rfl⟩,trivial⟩ ?_
  refine WO.v (R.move rfl) rfl ?_
  refine WO.nil ?_
  exact WX.aI rfl rfl (Kp.refl _)
 ·rintro vs wd kd ⟨e1,e2,-⟩
  refine WO.br (fr':=[(70,.int .i64 ((i:Nat):Int)),(71,.int .i64 ((1:Nat):Int))]) ⟨⟨_,rfl,e1⟩,⟨_,rfl,e2⟩,trivial⟩ ?_
  refine WO.v (R.je rfl rfl (by omega)) rfl ?_
  refine WO.nil ?_
  exact WX.aI rfl rfl (Kp.refl _)
 ·rintro vs wd kd ⟨e0,e3,-⟩
  refine WO.br (fr':=[(69,.slice (some ⟨g,0,none⟩) (n+1) c),(72,.int .i64 ((i+1:Nat):Int))]) ⟨⟨_,rfl,e0⟩,⟨_,rfl,e3⟩,trivial⟩ ?_
  refine WO.v (R.cc rfl rfl Tryz.underlying23 ck (dp (by omega)) (by omega)) rfl ?_
  refine WO.nil ?_
  exact WX.aI rfl rfl (Kp.refl _)
 ·rintro vs wd kd ⟨-⟩
  refine WO.br (fr':=[(0,.slice (some ⟨g,0,none⟩) (n+1) c)]) ⟨⟨_,rfl,rfl⟩,trivial⟩ ?_
  refine WO.v (R.move rfl) rfl ?_
  refine WO.nil ?_
  exact WX.aI rfl rfl (Kp.refl _)
 ·rintro vs wd kd ⟨-⟩
  refine WO.br (fr':=[(1,.int .i64 ((i:Nat):Int))]) ⟨⟨_,rfl,rfl⟩,trivial⟩ ?_
  refine WO.v (R.move rfl) rfl ?_
  refine WO.nil ?_
  exact WX.aI rfl rfl (Kp.refl _)
 ·rintro vs wd kd ⟨e5,e6,-⟩
  refine WO.br (fr':=[(74,.slice (some ⟨g,0,none⟩) (n+1) c),(75,.int .i64 ((i:Nat):Int))]) ⟨⟨_,rfl,e5⟩,⟨_,rfl,e6⟩,trivial⟩ ?_
  refine WO.v (R.cc rfl rfl Tryz.underlying23 ck (dp (by omega)) (by omega)) rfl ?_
  refine WO.nil ?_
  exact WX.aI rfl rfl (Kp.refl _)
 rintro vsx w1 k1 ⟨-,-,-,-,e4,-,-,e7,-⟩
 replace k1:Kp [] w w1:=k1
 refine WO.br (fr':=[(73,.slice (some ⟨g,(i+1)*2,none⟩) (n+1 - (i+1)) (c - (i+1))),(76,.slice (some ⟨g,i*2,none⟩) (n+1 - i) (c - i)),(0,.slice (some ⟨g,0,none⟩) (n+1) c),(1,.int .i64 ((i:Nat):Int)),(2,.slice (some ad) 1 vc)]) ⟨⟨_,rfl,e4⟩,⟨_,rfl,e7⟩,⟨_,rfl,rfl⟩,⟨_,rfl,rfl⟩,⟨_,rfl,rfl⟩,trivial⟩ ?_
 have hg1:w1.heap[g]? = some (.cells (List.toArray cur) 77 (0,0)):=by rw [k1.block g (ba hrow) (by simp)]; exact hrow
 refine WO.v (R.kZ rfl rfl Tryz.underlying23 ck hg1 hn2 (hd.kp k1 (ba hrow) (by simp)) (by omega) h1d) rfl ?_
 refine WO.nil ?_
 refine WX.next ?_
 have hg2:(w1.setRow g (cur.take ((i+1)*2)++ds++cur.drop ((i+1)*2+ds.length)).toArray).heap[g]? = some (.cells (List.toArray (cur.take ((i+1)*2)++ds++cur.drop ((i+1)*2+ds.length))) 77 (0,0)):=setRow_heap w1 g _ _ 77 _ hg1
 have hv2:CellsAt (w1.setRow g (cur.take ((i+1)*2)++ds++cur.drop ((i+1)*2+ds.length)).toArray) ad vs:=(hv.kp k1 (ba hvb) (by simp)).kp (Kp.setRow w1 g _) (Nat.lt_of_lt_of_le (ba hvb) k1.size) (by simpa using fun h=>hne h.symm)
 refine WC.seq ?_
 refine WC.region ?_
 refine WO.v (R.move rfl) rfl ?_
 refine WO.v (R.move rfl) rfl ?_
 refine WO.v (R.cc rfl rfl Tryz.underlying23 ck (dp (by omega)) (by omega)) rfl ?_
 refine WO.v (R.move rfl) rfl ?_
 refine WO.v (R.kZ rfl rfl Tryz.underlying23 ck hg2 hn1 hv2 (by simp only [List.length_append,List.length_take,List.length_drop]; omega) h1v) rfl ?_
 refine WO.nil ?_
 refine WX.next ?_
 refine WC.seq ?_
 refine WC.region ?_
 refine WO.v (R.move rfl) rfl ?_
 refine WO.v (R.assign rfl) rfl ?_
 refine WO.nil ?_
 refine WX.next ?_
 refine WC.ret ?_
 refine WX.gG ?_
 refine WX.tV rfl rfl ?_
 exact ⟨rfl,w1,k1,rfl⟩
theorem tM {G:Gl} {ρ:List RE} {H:AH} {w:World} (hs:G.shp=au aF) (hR:Rep G ρ H w) {l m:List (den (.nm .opn))} (hH:getO H 0 = .row 77 (.nm .opn) l) (hl:l.length<1048576) {i:Nat} (hi:i<=l.length) {v0:Value} (h0:Rd (cx G ρ w) ρ (.own 0) v0)
  {ad:Addr} {k:Nat} {cys:List Value} {bAV:AV} (hm:m.length=1) (hb:Rd (cx G ρ w) ρ bAV (.slice (some ad) 1 k)) (hbv:(bAV.vw H).fl (.nm .opn)=some m) (hv:CellsAt w ad cys) (hvl:cys.length=2) (h1v:∀ u ∈ cys,u.oneCell' = true) (hp:Pds (cx G ρ w) (m.flatMap (cellsOf (.nm .opn))) cys)
  (hne:∀ g c n z,ρ[0]? = some (.row g c n z)->ad.block≠g) {curA:Array Value} {tA:TypeId} {fA:Nat × Nat} (hvb:w.heap[ad.block]? = some (.cells curA tA fA)) (hvb0:curA.size≠0) :
  gQ Tryz.prog 92 [v0,.int .i64 (i:Int),.slice (some ad) 1 k].toArray w fun v w'=>∃ ρ',Stp (wZ 0) ρ w ρ' w' /\ Rep G ρ' ((ez (AV.kill 0) H).set 0 (.row 77 (.nm .opn) (l.take i++m++l.drop i))) w' /\ Rd (cx G ρ' w') ρ' (.own 0) v:=by
 have hT:bn Tryz.prog G.shp aF:=hs ▸ ga
 obtain ⟨hshp,hlen⟩:=cV hR hH
 have hl64:l.length<=9223372036854775807:=by omega
 have hin:((l.length:Nat):Int)<=9223372036854775807:=by omega
 by_cases hie:i=l.length
 ·subst hie
  have hc:∃ A c,v0 = .slice A l.length c:=by
   rcases h0 with ⟨g,cap,len,z,h1,rfl⟩ | ⟨h1,a,rfl⟩
   ·rcases bt hR hH with ⟨h2,_⟩ | ⟨g',cap',cells,sp,h2,_⟩
    ·rw [h1] at h2; cases h2
    ·rw [h1] at h2; cases h2; exact ⟨_,_,rfl⟩
   ·rcases bt hR hH with ⟨_,h2⟩ | ⟨g',cap',cells,sp,h2,_⟩
    ·subst h2; exact ⟨_,_,rfl⟩
    ·rw [h1] at h2; cases h2
  obtain ⟨A,c,rfl⟩:=hc
  refine tI fun F x y ty hx hy=>?_
  have happ:ft aF (wZ 0) ([]:AFr) H 23 (.own 0) bAV=some ⟨one (.own 0),[],(ez (AV.kill 0) H).set 0 (.row 77 (.nm .opn) (l++m)),[(l.length+m.length)*(Sh.nm NT.opn).bytes<=140737488355328],[]⟩:=by
   unfold ft
   rw [show bu aF 23=some ⟨.sl 77 (some (.nm .opn)),1,[.em true]⟩ from by kernel_rfl]
   simp only [hbv,hH]
   rfl
  obtain ⟨v,w',h1,ρ',h2,h3,_,h5,_⟩:=fy (P:=Tryz.prog) (n:=95) (F:=[]) (ty:=ty) (fr:=[]) (x:=.const (.slice A l.length c)) (y:=.const (.slice (some ad) 1 k)) hT hR .nil happ (by
   intro p hp
   rw [List.mem_singleton] at hp; subst hp
   show (l.length+m.length)*16<=_
   omega) h0 hb rfl rfl
  refine ⟨v,w',R.vi h1 hx hy,ρ',h2,?_,h5⟩
  rw [List.take_length,List.drop_length,List.append_nil]
  exact h3
 ·have hlt:i<l.length:=by omega
  rcases bt hR hH with ⟨_,h2⟩ | ⟨g,cap,cells,sp,hρ,hg,hpd,hsz,hcap,hmax⟩
  ·subst h2; simp at hlt
  obtain ⟨hnb,hil,hiH⟩:=kg hR hH
  have hv0:v0 = .slice (some ⟨g,0,none⟩) l.length cap:=by
   rcases h0 with ⟨g',cap',len,z,h1,rfl⟩ | ⟨h1,a,rfl⟩
   ·rw [hρ] at h1; cases h1; rfl
   ·rw [hρ] at h1; cases h1
  subst hv0
  have hz:(Sh.nm NT.opn).size=2:=rfl
  have hby:(Sh.nm NT.opn).bytes=16:=rfl
  have hcl:cells.length=l.length*2:=by rw [<- hpd.length,bH,hz]
  rw [hz,List.length_append] at hsz
  have hone:∀ u ∈ cells.drop (i*2),u.oneCell' = true:=fun u hu=>hpd.zg u (List.mem_of_mem_drop hu)
  have hd:CellsAt w ⟨g,i*2,none⟩ (cells.drop (i*2)):=by
   have:=(bV hg).shift (i*2)
   rwa [add_lit,Nat.zero_add] at this
  have hdl:(cells.drop (i*2)).length=(l.length - i)*2:=by rw [List.length_drop,hcl]; omega
  have hgl:=ba hg
  have hzl:(l.take i++m++l.drop i).length=l.length+1:=by
   rw [List.length_append,List.length_append,List.length_take,List.length_drop,hm]; omega
  have hnew:∀ {c:Cx},(cx G ρ w).le c->Pds c ((l.take i++m++l.drop i).flatMap (cellsOf (.nm .opn))) (cells.take (i*2)++cys++cells.drop (i*2)):=fun {c} hle=>by
   rw [List.flatMap_append,List.flatMap_append]
   exact (((bE hpd i).append hp).append (bQ hpd i)).carry hle
  have hnl:(cells.take (i*2)++cys++cells.drop (i*2)).length=(l.length+1)*2:=by
   rw [List.length_append,List.length_append,List.length_take,List.length_drop,hcl,hvl]; omega
  have hbig:(l.take i++m++l.drop i).length*(Sh.nm NT.opn).bytes<=140737488355328:=by rw [hzl,hby]; omega
  -- what is shown of any way
  have fin:∀ (S:List Nat) (g2 cap2:Nat) (sp2:List Value) (w':World),Kp S w w' -> (∀ b ∈ S,b=g)->(g2=g\/w.heap.size<=g2)->w'.heap[g2]? = some (.cells (List.toArray (cells.take (i*2)++cys++cells.drop (i*2)++sp2)) 77 (0,0))->(l.length+1)*2+sp2.length=cap2*2->l.length+1<=cap2->cap2<=maxLen ->
    ∃ ρ',Stp (wZ 0) ρ w ρ' w' /\ Rep G ρ' ((ez (AV.kill 0) H).set 0 (.row 77 (.nm .opn) (l.take i++m++l.drop i))) w' /\ Rd (cx G ρ' w') ρ' (.own 0) (.slice (some ⟨g2,0,none⟩) (l.length+1) cap2):=by
   intro S g2 cap2 sp2 w' hk hS hg2 hh hlen2 hle2 hmax2
   obtain ⟨k1,k2,_⟩:=iM (ro:=wZ 0) (s':=.nm .opn) (e':=77) (zs:=l.take i++m++l.drop i) hR hH ⟨rfl,rfl⟩ hk (fun b hb=>⟨_,hρ,by rw [hS b hb]; rfl⟩) (r':=.row g2 cap2 (l.take i++m++l.drop i).length (Sh.nm NT.opn).size) (fun b hb=>by
    cases hb
    rcases hg2 with rfl | hg2
    ·exact .inl ⟨_,hρ,rfl⟩
    ·exact .inr ⟨hg2,ba hh⟩) (fun hle=>⟨hshp,hbig,.inr ⟨g2,cap2,_,sp2,rfl,hh,hnew hle,by rw [List.length_append,hnl,hz]; exact hlen2,by rw [hzl]; exact hle2,hmax2⟩⟩)
   exact ⟨_,k1,k2,.inl ⟨g2,cap2,_,_,List.getElem?_set_self hil,by rw [hzl]⟩⟩
  have eo:(i+1)*2=i*2+2:=by omega
  by_cases hroom:l.length+1<=cap
  ·refine (pq hlt hroom hmax hg (by rw [List.length_append]; omega) hv hvb hvb0 (hne _ _ _ _ hρ) hvl hd hdl h1v hone).mono fun v w' ⟨e1,w1,k1,e2⟩=>?_
   subst e1; subst e2
   rw [eo,Ew (by omega) hvl]
   have hk:Kp [g] w ((w1.setRow g ((cells++sp).take (i*2+2)++cells.drop (i*2)++(cells++sp).drop (i*2+2+(cells.drop (i*2)).length)).toArray).setRow g (cells.take (i*2)++cys++cells.drop (i*2)++sp.drop 2).toArray):=((k1.sub (by simp)).step (Kp.setRow w1 g _) (by simp)).step (Kp.setRow _ g _) (by simp)
   have hg1:w1.heap[g]? = some (.cells (List.toArray (cells++sp)) 77 (0,0)):=by rw [k1.block g hgl (by simp)]; exact hg
   exact fin [g] g cap (sp.drop 2) _ hk (by simp) (.inl rfl) (setRow_heap _ g _ _ 77 _ (setRow_heap w1 g _ _ 77 _ hg1)) (by rw [List.length_drop]; omega) hroom hmax
  ·obtain ⟨ti,hi0,hz0,hz1,hz2⟩:=info_parts vS
   have eik:i+(l.length+1 - i)=l.length+1:=by omega
   have hge:=grownCap_ge w (l.length+1) cap 77
   have hgm:=grownCap_le_maxLen w (l.length+1) cap 77 (by simp [maxLen]; omega)
   have hold:(Builtin.firstCells ti.size i (.slice (some ⟨g,0*2,none⟩) i cap)).run Tryz.prog w.drew = .ok (cells.take (i*2)).toArray w.drew:=by
    have h:=run_loadCells_list (P:=Tryz.prog) w.drew ⟨g,0*2,none⟩ (cells.take (i*2)) (by rw [Nat.zero_mul]; exact (bV hg).take _)
    rw [List.length_take,Nat.min_eq_left (by omega)] at h
    rw [hz1]; exact h
   have happ:∀ (F:Fr) (x y:Operand) (ty:TypeId),ev F x=some (.slice (some ⟨g,0*2,none⟩) i cap)->ev F y=some (.int .i64 ((l.length+1 - i:Nat):Int))->aL Tryz.prog 95 F w (.call { callee:=.builtin .append,args:=#[x,y],argTypes:=#[23,3] }) ty (.slice (some ⟨w.heap.size,0,none⟩) (l.length+1) (grownCap w (l.length+1) cap 77)) (w.drew.alloc (.cells (List.toArray (cells.take (i*2)++((Builtin.zeroCells (Value.agg #[.int .i64 0,.int .i64 0]).cells (l.length+1 - i)).toList++(Builtin.zeroCells (Value.agg #[.int .i64 0,.int .i64 0]).cells (grownCap w (l.length+1) cap 77 - (l.length+1))).toList))) 77)):=fun F x y ty hx hy=>by
    have h:=R.Ix (P:=Tryz.prog) (n:=95) (ty:=ty) hx hy Tryz.underlying23 Tryz.underlying3 hi0 hz0 hold (by omega) (by rw [hz1]; decide) (by omega) (by omega) (by rw [hz2]; omega) (by rw [hz2,eik]; exact growslice_fits (by omega) (by omega))
    rw [eik] at h
    have e:∀ (a:List Value) (b c:Array Value),a.toArray++b++c=(a++(b.toList++c.toList)).toArray:=fun a b c=>by apply Array.ext'; simp
    rw [e] at h
    exact h
   have hcurl:(cells.take (i*2)++((Builtin.zeroCells (Value.agg #[.int .i64 0,.int .i64 0]).cells (l.length+1 - i)).toList++(Builtin.zeroCells (Value.agg #[.int .i64 0,.int .i64 0]).cells (grownCap w (l.length+1) cap 77 - (l.length+1))).toList)).length=grownCap w (l.length+1) cap 77*2:=by
    rw [List.length_append,List.length_append,List.length_take,lU,lU]
    show min _ _+((l.length+1 - i)*2+(grownCap w (l.length+1) cap 77 - (l.length+1))*2)=_
    omega
   have htk:(cells.take (i*2)++((Builtin.zeroCells (Value.agg #[.int .i64 0,.int .i64 0]).cells (l.length+1 - i)).toList++(Builtin.zeroCells (Value.agg #[.int .i64 0,.int .i64 0]).cells (grownCap w (l.length+1) cap 77 - (l.length+1))).toList)).take (i*2)=cells.take (i*2):=List.take_left' (by rw [List.length_take]; omega)
   generalize grownCap w (l.length+1) cap 77=GC at *
   generalize cells.take (i*2)++((Builtin.zeroCells (Value.agg #[.int .i64 0,.int .i64 0]).cells (l.length+1 - i)).toList++(Builtin.zeroCells (Value.agg #[.int .i64 0,.int .i64 0]).cells (GC - (l.length+1))).toList)=cur at *
   have hK1:Kp [] w (w.drew.alloc (.cells (List.toArray cur) 77)):=((Kp.refl w).drew).step (Kp.alloc w.drew _) (by simp)
   have hrow:(w.drew.alloc (.cells (List.toArray cur) 77)).heap[w.heap.size]? = some (.cells (List.toArray cur) 77 (0,0)):=heap_alloc_new w.drew _
   generalize w.drew.alloc (.cells (List.toArray cur) 77)=W1 at *
   refine (rm hlt hcap (by omega) hmax hge hgm happ hrow (by omega) (hv.kp hK1 (ba hvb) (by simp)) hvl (hd.kp hK1 hgl (by simp)) (by omega) (Nat.lt_of_lt_of_le hgl hK1.size) hdl h1v hone).mono fun v w' ⟨e1,w1,k1,e2⟩=>?_
   subst e1; subst e2
   rw [eo,EC (cells:=cells) (by omega) hvl htk]
   have hs1:∀ b ∈ [w.heap.size],b ∈ ([]:List Nat)\/w.heap.size<=b:=fun b hb=>.inr (by rw [List.mem_singleton] at hb; omega)
   have hk:Kp [] w (w1.setRow w.heap.size (cells.take (i*2)++cys++cells.drop (i*2)++cur.drop (i*2+2+(cells.drop (i*2)).length)).toArray):=((hK1.step (Kp.setRow W1 w.heap.size _) hs1).step k1 (by simp)).step (Kp.setRow w1 w.heap.size _) hs1
   have hg1:=(k1.block w.heap.size (by simpa using ba hrow) (by simp)).trans (setRow_heap W1 w.heap.size _ (cur.take (i*2)++cys++cur.drop (i*2+cys.length)).toArray 77 _ hrow)
   exact fin [] w.heap.size GC _ _ hk (by simp) (.inr (Nat.le_refl _)) (setRow_heap w1 w.heap.size _ _ 77 _ hg1) (by rw [List.length_drop]; omega) hge hgm
theorem oW (i:Int) (l m:List (den (.nm .opn))) (h:0<=i/\i<=(l.length:Int)) (hl:l.length<1048576) (hm:m.length=1):Sat Tryz.prog (au aF) 92 [.c (.own 0),.c (.int i),.c (.fz (.nm .opn) m)] [.row 77 (.nm .opn) l] ⟨[0<=i/\i<=(l.length:Int),l.length<1048576,m.length=1],[.c (.own 0)],some [.row 77 (.nm .opn) (l.take i.toNat++m++l.drop i.toNat)],false⟩:=by
 refine ⟨⟨_,Tryz.func92,by decide,rfl⟩,fun G ρ w vs hs hR hvs=>?_⟩
 obtain ⟨i,rfl⟩:=Int.eq_ofNat_of_zero_le h.1
 cases hvs with | cons h0 hvs=>
 cases hvs with | cons h1 hvs=>
 cases hvs with | cons h2 hvs=>
 cases hvs
 have h1:Pd (cx G ρ w) (.int (i:Int)) _:=h1
 cases h1
 have h0:Rd (cx G ρ w) ρ (.own 0) _:=h0
 have h2:Rd (cx G ρ w) ρ (.fz (.nm .opn) m) _:=h2
 have hH:getO [AO.row 77 (.nm .opn) l] 0 = .row 77 (.nm .opn) l:=rfl
 have hbv:(AV.vw [AO.row 77 (.nm .opn) l] (.fz (.nm .opn) m)).fl (.nm .opn)=some m:=by simp [AV.vw,AV.fl,getO]
 obtain ⟨A,k,cys,rfl,s1,s2,s3,s4⟩:=nt hR hbv h2
 rw [hm] at h2 s1 s3
 rw [hm]
 obtain ⟨ad,rfl,s5⟩:∃ ad,A=some ad/\CellsAt w ad cys:=s3.resolve_left (by decide)
 have hz:(Sh.nm NT.opn).size=2:=rfl
 rw [hz] at s1
 obtain ⟨u,hu⟩:∃ u,cys[0]? = some u:=⟨_,List.getElem?_eq_getElem (by omega)⟩
 obtain ⟨cur,t,f,hc,hc0⟩:=nL (s5 0 u hu)
 have hne:∀ g c n z,ρ[0]? = some (.row g c n z)->ad.block≠g:=fun g c n z hg e=>by
  have h2:Pd (cx G ρ w) (.fz (.nm .opn) m) (.slice (some ad) 1 k):=h2
  have h3:=GH h2 (by rw [hm]; decide)
  exact h3.1.2.1 ⟨0,_,hg,by rw [e]; rfl⟩
 rw [eT] at hc
 refine (tM hs hR hH hl (by omega) h0 hm h2 hbv s5 s1 s2 s4 hne hc hc0).mono fun v w' ⟨ρ',k1,k2,k3⟩=>?_
 exact ⟨[v],rfl,ρ',k2,k1.ext,k1.bx,.cons k3 .nil,fun hb=>by cases hb⟩
theorem yL:(Builtin.zeroCells (Value.agg #[.int .i64 0,.int .i64 0]).cells 1).toList=[.int .i64 0,.int .i64 0]:=by kernel_rfl
set_option maxRecDepth 100000 in
set_option maxHeartbeats 1000000 in
theorem BH {w:World} {g n i c:Nat} {cur ds:List Value} {ti:TypeInfo} (hi:i<n) (hnc:n<=c) (hcm:c<=maxLen) (hg:w.heap[g]? = some (.cells cur.toArray 77 (0,0))) (hcur:n*2<=cur.length) (hdl:ds.length=(n - (i+1))*2) (hd:CellsAt w (if c=i+1 then ⟨g,0,none⟩ else (⟨g,0,none⟩:Addr).add ((i+1)*2)) ds) (h1d:∀ u ∈ ds,u.oneCell' = true)
  (hi0:Tryz.prog.info? 77=some ti) (hz0:ti.zero=some (.agg #[.int .i64 0,.int .i64 0])) (hz1:ti.size=2) :
  gQ Tryz.prog 95 [.slice (some ⟨g,0,none⟩) n c,.int .i64 (i:Int),.int .i64 ((i+1:Nat):Int)].toArray w fun v w'=>v = .slice (some ⟨g,0,none⟩) (i+(n - (i+1))) c/\∃ w1,Kp [] w w1/\w' = (w1.setRow g (cur.take (i*ti.size)++ds++cur.drop (i*ti.size+ds.length)).toArray).setRow g ((cur.take (i*ti.size)++ds++cur.drop (i*ti.size+ds.length)).take ((i+(n - (i+1)))*2)++(Builtin.zeroCells (Value.agg #[.int .i64 0,.int .i64 0]).cells 1).toList++(cur.take (i*ti.size)++ds++cur.drop (i*ti.size+ds.length)).drop ((i+(n - (i+1)))*2+(Builtin.zeroCells (Value.agg #[.int .i64 0,.int .i64 0]).cells 1).toList.length)).toArray:=by
 have hcm:c<=9223372036854775807:=hcm
 refine gQ.enter Tryz.func95 rfl rfl rfl rfl ?_
 refine WC.seq ?_
 refine WC.region ?_
 refine WO.v (R.assign rfl) rfl ?_
 refine WO.nil ?_
 refine WX.next ?_
 refine WC.seq ?_
 refine WC.region ?_
 refine WO.v (R.move rfl) rfl ?_
 refine WO.v (R.move rfl) rfl ?_
 refine WO.v (R.move rfl) rfl ?_
 refine WO.v (R.move rfl) rfl ?_
 refine WO.v (R.len rfl Tryz.underlying23) rfl ?_
 refine WO.v (R.slice3 rfl rfl rfl rfl Tryz.underlying23 ck (by omega) (by omega) (by omega)) rfl ?_
 refine WO.nil ?_
 refine WX.next ?_
 refine WC.seq ?_
 refine WC.seq ?_
 refine WC.region ?_
 refine WO.v (R.move rfl) rfl ?_
 refine WO.v (R.move rfl) rfl ?_
 refine WO.v (R.eql rfl rfl) rfl ?_
 refine WO.nil ?_
 refine WX.next ?_
 refine WC.cond rfl (fun q=>absurd (of_decide_eq_true q) (by omega)) (fun _=>?_)
 refine WC.skip ?_
 refine WX.next ?_
 refine WC.seq ?_
 refine WC.region ?_
 refine WO.v (R.move rfl) rfl ?_
 refine WO.v (R.len rfl Tryz.underlying23) rfl ?_
 refine WO.v (R.assign rfl) rfl ?_
 refine WO.nil ?_
 refine WX.next ?_
 refine WC.seq ?_
 refine WC.nW fU [.ex [] (.slice (some ⟨g,0,none⟩) n c),.ex [] (.int .i64 ((i:Nat):Int)),.ex [0,1] (.slice (some ⟨g,0*2,none⟩) (i - 0) (c - 0)),.ex [] (.slice (some ⟨g,0,none⟩) n c),.ex [] (.int .i64 ((i+1:Nat):Int)),.ex [3,4] (.slice (some (if c=i+1 then ⟨g,0,none⟩ else (⟨g,0,none⟩:Addr).add ((i+1)*2))) (n - (i+1)) (c - (i+1)))] 6 (by kernel_rfl) ⟨fun _ _ _ h _=>h,fun _ _ _ h _=>h,fun _ _ _ h _=>h,fun _ _ _ h _=>h,fun _ _ _ h _=>h,fun _ _ _ h _=>h,trivial⟩ ⟨?_,?_,?_,?_,?_,?_,trivial⟩ ?_
 ·rintro vs wd kd ⟨-⟩
  refine WO.br (fr':=[(0,.slice (some ⟨g,0,none⟩) n c)]) ⟨⟨_,rfl,rfl⟩,trivial⟩ ?_
  refine WO.v (R.move rfl) rfl ?_
  refine WO.nil ?_
  exact WX.aI rfl rfl (Kp.refl _)
 ·rintro vs wd kd ⟨-⟩
  refine WO.br (fr':=[(1,.int .i64 ((i:Nat):Int))]) ⟨⟨_,rfl,rfl⟩,trivial⟩ ?_
  refine WO.v (R.move rfl) rfl ?_
  refine WO.nil ?_
  exact WX.aI rfl rfl (Kp.refl _)
 ·rintro vs wd kd ⟨e0,e1,-⟩
  refine WO.br (fr':=[(20,.slice (some ⟨g,0,none⟩) n c),(21,.int .i64 ((i:Nat):Int))]) ⟨⟨_,rfl,e0⟩,⟨_,rfl,e1⟩,trivial⟩ ?_
  refine WO.v (R.jS rfl rfl Tryz.underlying23 ck (dp (i:=0) (by omega)) (by omega)) rfl ?_
  refine WO.nil ?_
  exact WX.aI rfl rfl (Kp.refl _)
 ·rintro vs wd kd ⟨-⟩
  refine WO.br (fr':=[(0,.slice (some ⟨g,0,none⟩) n c)]) ⟨⟨_,rfl,rfl⟩,trivial⟩ ?_
  refine WO.v (R.move rfl) rfl ?_
  refine WO.nil ?_
  exact WX.aI rfl rfl (Kp.refl _)
 ·rintro vs wd kd ⟨-⟩
  refine WO.br (fr':=[(2,.int .i64 ((i+1:Nat):Int))]) ⟨⟨_,rfl,rfl⟩,trivial⟩ ?_
  refine WO.v (R.move rfl) rfl ?_
  refine WO.nil ?_
  exact WX.aI rfl rfl (Kp.refl _)
 ·rintro vs wd kd ⟨e3,e4,-⟩
  refine WO.br (fr':=[(23,.slice (some ⟨g,0,none⟩) n c),(24,.int .i64 ((i+1:Nat):Int))]) ⟨⟨_,rfl,e3⟩,⟨_,rfl,e4⟩,trivial⟩ ?_
  refine WO.v (R.cc rfl rfl Tryz.underlying23 ck GF (by omega)) rfl ?_
  refine WO.nil ?_
  exact WX.aI rfl rfl (Kp.refl _)
 rintro vsx w1 k1 ⟨-,-,e2,-,-,e5,-⟩
 replace k1:Kp [] w w1:=k1
 refine WO.br (fr':=[(22,.slice (some ⟨g,0*2,none⟩) (i - 0) (c - 0)),(25,.slice (some (if c=i+1 then ⟨g,0,none⟩ else (⟨g,0,none⟩:Addr).add ((i+1)*2))) (n - (i+1)) (c - (i+1))),(7,.int .i64 ((n:Nat):Int))]) ⟨⟨_,rfl,e2⟩,⟨_,rfl,e5⟩,⟨_,rfl,rfl⟩,trivial⟩ ?_
 have hg1:w1.heap[g]? = some (.cells (List.toArray cur) 77 (0,0)):=by rw [k1.block g (ba hg) (by simp)]; exact hg
 have hd1:CellsAt w1 (if c=i+1 then ⟨g,0,none⟩ else (⟨g,0,none⟩:Addr).add ((i+1)*2)) ds:=hd.keep (k1.block _ (by split <;> exact ba hg) (by simp))
 refine WO.v (R.CV (sl:=i) (sc:=c) rfl rfl Tryz.underlying23 hi0 hg1 (by rw [hz1]; exact hdl) hd1 h1d (by omega) (by rw [hz1]; omega)) rfl ?_
 refine WO.v (R.assign rfl) rfl ?_
 refine WO.nil ?_
 refine WX.next ?_
 have hg2:=setRow_heap w1 g _ (cur.take (i*ti.size)++ds++cur.drop (i*ti.size+ds.length)).toArray 77 _ hg1
 refine WC.seq ?_
 refine WC.region ?_
 refine WO.v (R.move rfl) rfl ?_
 refine WO.v (R.move rfl) rfl ?_
 refine WO.v (R.len rfl Tryz.underlying23) rfl ?_
 refine WO.v (R.move rfl) rfl ?_
 refine WO.v (R.u_ rfl rfl rfl Tryz.underlying23 ck (dp (by omega)) (by omega) (by omega)) rfl ?_
 refine WO.v0 (R.Ki rfl (by omega) Tryz.underlying23 hi0 hz0 (by rw [yL]; simp [Value.oneCell']) hg2 (by rw [lU,hz1]; simp only [List.length_append,List.length_take,List.length_drop]; show _+1*2<=_; omega)) ?_
 refine WO.nil ?_
 refine WX.next ?_
 refine WC.seq ?_
 refine WC.region ?_
 refine WO.v (R.move rfl) rfl ?_
 refine WO.v (R.assign rfl) rfl ?_
 refine WO.nil ?_
 refine WX.next ?_
 refine WC.ret ?_
 refine WX.tV rfl rfl ?_
 exact ⟨rfl,w1,k1,rfl⟩
theorem sE (i j:Int) (l:List (den (.nm .opn))) (h:0<=i/\i<(l.length:Int)/\j=i+1):Sat Tryz.prog (au aF) 95 [.c (.own 0),.c (.int i),.c (.int j)] [.row 77 (.nm .opn) l] ⟨[0<=i/\i<(l.length:Int)/\j=i+1],[.c (.own 0)],some [.row 77 (.nm .opn) (l.take i.toNat++l.drop j.toNat)],false⟩:=by
 refine ⟨⟨_,Tryz.func95,by decide,rfl⟩,fun G ρ w vs hs hR hvs=>?_⟩
 obtain ⟨hi0,hi1,rfl⟩:=h
 obtain ⟨i,rfl⟩:=Int.eq_ofNat_of_zero_le hi0
 have hlt:i<l.length:=by omega
 cases hvs with | cons h0 hvs=>
 cases hvs with | cons h1 hvs=>
 cases hvs with | cons h2 hvs=>
 cases hvs
 have h1:Pd (cx G ρ w) (.int (i:Int)) _:=h1
 have h2:Pd (cx G ρ w) (.int ((i:Int)+1)) _:=h2
 cases h1
 cases h2
 have h0:Rd (cx G ρ w) ρ (.own 0) _:=h0
 have hH:getO [AO.row 77 (.nm .opn) l] 0 = .row 77 (.nm .opn) l:=rfl
 obtain ⟨hshp,hlen⟩:=cV hR hH
 rcases bt hR hH with ⟨_,h2⟩ | ⟨g,cap,cells,sp,hρ,hg,hpd,hsz,hcap,hmax⟩
 ·subst h2; simp at hlt
 obtain ⟨hnb,hil,hiH⟩:=kg hR hH
 have hz:(Sh.nm NT.opn).size=2:=rfl
 have hby:(Sh.nm NT.opn).bytes=16:=rfl
 have hcl:cells.length=l.length*2:=by rw [<- hpd.length,bH,hz]
 rw [hz,List.length_append] at hsz
 rw [hby] at hlen
 obtain ⟨ti,hi0,hz0,hz1,hz2⟩:=info_parts vS
 have hone:∀ u ∈ cells.drop ((i+1)*2),u.oneCell' = true:=fun u hu=>hpd.zg u (List.mem_of_mem_drop hu)
 have hd:CellsAt w (if cap=i+1 then ⟨g,0,none⟩ else (⟨g,0,none⟩:Addr).add ((i+1)*2)) (cells.drop ((i+1)*2)):=by
  split
  ·rw [List.drop_of_length_le (by omega)]; exact CellsAt.nil
  ·exact (bV hg).shift _
 have hv0:∀ v,Rd (cx G ρ w) ρ (.own 0) v->v = .slice (some ⟨g,0,none⟩) l.length cap:=fun v h0=>by
  rcases h0 with ⟨g',cap',len,z,h1,rfl⟩ | ⟨h1,a,rfl⟩
  ·rw [hρ] at h1; cases h1; rfl
  ·rw [hρ] at h1; cases h1
 obtain rfl:=hv0 _ h0
 have e0:((i:Int)+1)=((i+1:Nat):Int):=by omega
 rw [e0]
 refine (BH hlt hcap hmax hg (by rw [List.length_append]; omega) (by rw [List.length_drop,hcl]; omega) hd hone hi0 hz0 hz1).mono fun v w' ⟨e1,w1,k1,e2⟩=>?_
 subst e1
 have hq:i+(l.length - (i+1))=l.length - 1:=by omega
 rw [hq,hz1,yL] at e2
 rw [hq]
 have hzl:(l.take i++l.drop (i+1)).length=l.length - 1:=by rw [List.length_append,List.length_take,List.length_drop]; omega
 have hnl:(cells.take (i*2)++cells.drop ((i+1)*2)).length=(l.length - 1)*2:=by rw [List.length_append,List.length_take,List.length_drop]; omega
 have htk:((cells++sp).take (i*2)++cells.drop ((i+1)*2)++(cells++sp).drop (i*2+(cells.drop ((i+1)*2)).length)).take ((l.length - 1)*2)=cells.take (i*2)++cells.drop ((i+1)*2):=by
  rw [List.take_append_of_le_length (l₁:=cells) (by omega)]
  exact List.take_left' hnl
 have hr1l:((cells++sp).take (i*2)++cells.drop ((i+1)*2)++(cells++sp).drop (i*2+(cells.drop ((i+1)*2)).length)).length=cap*2:=by
  simp only [List.length_append,List.length_drop,List.length_take]
  omega
 generalize (cells++sp).take (i*2)++cells.drop ((i+1)*2)++(cells++sp).drop (i*2+(cells.drop ((i+1)*2)).length)=r1 at e2 htk hr1l
 rw [htk,List.append_assoc] at e2
 generalize hsp2:([.int .i64 0,.int .i64 0]:List Value)++List.drop ((l.length - 1)*2+([.int .i64 0,.int .i64 0]:List Value).length) r1=sp2 at e2
 have hlen2:(l.length - 1)*2+sp2.length=cap*2:=by
  rw [<- hsp2]
  simp only [List.length_append,List.length_cons,List.length_nil,List.length_drop]
  omega
 have hg1:w1.heap[g]? = some (.cells (List.toArray (cells++sp)) 77 (0,0)):=by rw [k1.block g (ba hg) (by simp)]; exact hg
 have hh:=setRow_heap _ g _ (cells.take (i*2)++cells.drop ((i+1)*2)++sp2).toArray 77 _ (setRow_heap w1 g _ r1.toArray 77 _ hg1)
 have hk:=((k1.sub (T:=[g]) (by simp)).step (Kp.setRow w1 g r1.toArray) (by simp)).step (Kp.setRow _ g (cells.take (i*2)++cells.drop ((i+1)*2)++sp2).toArray) (by simp)
 subst e2
 obtain ⟨k2,k3,_⟩:=iM (ro:=wZ 0) (s':=.nm .opn) (e':=77) (zs:=l.take i++l.drop (i+1)) hR hH ⟨rfl,rfl⟩ hk (fun b hb=>⟨_,hρ,by rw [List.mem_singleton] at hb; subst hb; rfl⟩) (r':=.row g cap (l.take i++l.drop (i+1)).length (Sh.nm NT.opn).size) (fun b hb=>by
  cases hb; exact .inl ⟨_,hρ,rfl⟩) (fun hle=>⟨hshp,by rw [hzl,hby]; omega,.inr ⟨g,cap,_,sp2,rfl,hh,by
   rw [List.flatMap_append]; exact ((bE hpd i).append (bQ hpd (i+1))).carry hle,by rw [List.length_append,hnl,hz]; exact hlen2,by omega,hmax⟩⟩)
 exact ⟨[_],rfl,_,k3,k2.ext,k2.bx,.cons (.inl ⟨g,cap,_,_,List.getElem?_set_self hil,by rw [hzl]⟩) .nil,fun hb=>by cases hb⟩
end Go.Proofs.YtdggohppeeaipaaGreat
namespace Go.Proofs.YtdggohppeeaipaaGreat
open Go.RowKit
def mO {β:Type} (z:β) (k:Int):List (Int × β)->β
 | []=>z
 | p :: r=>if k=p.1 then p.2 else mO z k r
end Go.Proofs.YtdggohppeeaipaaGreat
namespace Go.Proofs.YtdggohppeeaipaaGreat
open Go.RowKit
def jk (a b:Int):Int:=if (1<=a/\a<=3)/\(1<=b/\b<=3) then (if a<b then 32 else 0) else 1
def bc (n:Int):Bool:=decide (1<=n) && decide (n<=3)
def eF (l:List Int) (k:Nat):Int:=((l.take k).tail).foldl min (l.headD 0)
def qW (l:List Int):Int:=l.tail.foldl min (l.headD 0)
def dS (l:List Int):Int:=if decide (l.length=0) || !l.all bc then 0 else qW l
def ir (v:Int) (l:List Int):Bool:=(decide (1<=v) && decide (v<3)) && decide (v<dS l)
theorem aD {α:Type} {l:List α} {k:Nat} {x:α} (hx:l[k]? = some x):l.take (k+1)=l.take k++[x]:=by
 rw [List.take_add_one,hx]; rfl
theorem ug {l:List Int} {k:Nat} {x:Int} (hk:1<=k) (hx:l[k]? = some x):min (eF l k) x=eF l (k+1):=by
 unfold eF
 rw [aD hx,List.tail_append_of_ne_nil,List.foldl_append]
 ·rfl
 ·intro h
  have h3:(l.take k).length=0:=by rw [h]; rfl
  have h2:=tw hx
  rw [List.length_take] at h3
  omega
theorem kq {l:List Int} {x:Int} (hx:l[0]? = some x):x=eF l 1:=by
 cases l with
 | nil=>simp at hx
 | cons a r=>simp at hx; simp [eF,hx]
theorem jG {l:List Int} {k:Nat} (hk:l.length<=k):eF l k=qW l:=by
 unfold eF qW; rw [List.take_of_length_le hk]
end Go.Proofs.YtdggohppeeaipaaGreat
namespace Go.Proofs.YtdggohppeeaipaaGreat
open Go.RowKit
end Go.Proofs.YtdggohppeeaipaaGreat
namespace Go.Proofs.YtdggohppeeaipaaGreat
open Go.RowKit
theorem uh {α:Type} [DecidableEq α] {l m:List α} (h:¬ ((l.length:Nat):Int)=((m.length:Nat):Int)):false=decide (l=m):=by
 symm; apply decide_eq_false; rintro rfl; exact h rfl
theorem ma {α:Type} [DecidableEq α] {l m:List α} {k:Nat} (hl:l.length=m.length) (h:l.take k=m.take k) (hk:l.length<=k):true=decide (l=m):=by
 symm; apply decide_eq_true
 rwa [List.take_of_length_le hk,List.take_of_length_le (by omega)] at h
def aQ (n a b:Int):Bool:=decide (a<=n) && decide (n<=b)
def aj {α:Type} (key:α->Int) (most:Int):Int->List α->Bool
 | _,[]=>true
 | a,x :: r=>aQ (key x) (a+1) most && aj key most (key x) r
def aY {α:Type} (key:α->Int) (a:Int) (l:List α):Int:=l.foldl (fun _ x=>key x) a
theorem dM {α:Type} {key:α->Int} {most:Int} {x:α}:∀ (p:List α) (a:Int),aj key most a (p++[x])=(aj key most a p && aQ (key x) (aY key a p+1) most)
 | [],a=>by simp [aj,aY]
 | y :: p,a=>by
  rw [List.cons_append,aj,aj,dM p,Bool.and_assoc]; rfl
theorem gR {α:Type} {key:α->Int} {most:Int} (q:List α):∀ (p:List α) (a:Int),aj key most a (p++q)=true->aj key most a p=true
 | [],a,_=>rfl
 | y :: p,a,h=>by
  rw [List.cons_append,aj,Bool.and_eq_true] at h
  rw [aj,Bool.and_eq_true]
  exact ⟨h.1,gR q p _ h.2⟩
theorem bL {α:Type} {key:α->Int} {a:Int} {l:List α} {k:Nat} {x:α} (hx:l[k]? = some x):key x=aY key a (l.take (k+1)):=by
 rw [aD hx,aY,List.foldl_append]; rfl
theorem fk {α:Type} {key:α->Int} {a:Int} {l:List α} {k:Nat} {x:α} (h:0<k) (hx:l[k - 1]? = some x):aY key a (l.take k)=key x:=by
 obtain ⟨j,rfl⟩:∃ j,k=j+1:=⟨k - 1,by omega⟩
 exact (bL (by simpa using hx)).symm
theorem gk {α:Type} {key:α->Int} {most a:Int} {l:List α} {k:Nat} {x:α} (h:aj key most a (l.take k)=true) (hx:l[k]? = some x) (h1:aY key a (l.take k)<key x) (h2:key x<=most):aj key most a (l.take (k+1))=true:=by
 rw [aD hx,dM,h,Bool.true_and,aQ,Bool.and_eq_true,decide_eq_true_eq,decide_eq_true_eq]
 exact ⟨by omega,h2⟩
theorem kH {α:Type} {key:α->Int} {most a:Int} {l:List α} {k:Nat} {x:α} (hx:l[k]? = some x) (h:¬ (aY key a (l.take k)<key x/\key x<=most)):aj key most a l=false:=by
 cases hr:aj key most a l with
 | false=>rfl
 | true=>
  have h1:=gR (l.drop (k+1)) (l.take (k+1)) a (by rw [List.take_append_drop]; exact hr)
  rw [aD hx,dM,Bool.and_eq_true,aQ,Bool.and_eq_true,decide_eq_true_eq,decide_eq_true_eq] at h1
  exact absurd ⟨by omega,h1.2.2⟩ h
theorem fT {α:Type} {key:α->Int} {most a:Int} {l:List α} {k:Nat} (h:aj key most a (l.take k)=true) (hk:l.length<=k):aj key most a l=true:=by
 rwa [List.take_of_length_le hk] at h
def cr (l:List Int):Bool:=(decide ((1:Int)<=((l.length:Nat):Int)) && decide (((l.length:Nat):Int)<=8)) && aj id 64 0 l
theorem gz {l:List Int} {k:Nat} {x:Int} (hx:l[k]? = some x) (h:¬ (aY id 0 (l.take k)<x/\x<=64)):false=cr l:=by
 rw [cr,kH (key:=id) hx h,Bool.and_false]
theorem jW {l:List Int} {k:Nat} (h:aj id 64 0 (l.take k)=true) (hk:l.length<=k):(decide ((1:Int)<=((l.length:Nat):Int)) && decide (((l.length:Nat):Int)<=8))=cr l:=by
 rw [cr,fT h hk,Bool.and_true]
theorem wq {l:List Int} {k:Nat} (h:aj id 64 0 (l.take k)=true):0<=aY id 0 (l.take k):=by
 by_cases hk:k=0
 ·subst hk; exact Int.le_refl _
 ·by_cases hl:k - 1<l.length
  ·have hx:=List.getElem?_eq_getElem hl
   rw [fk (by omega) hx]
   have e:l.take k=l.take (k - 1)++[l[k - 1]]:=by
    have:=aD hx
    rwa [show k - 1+1=k by omega] at this
   rw [e,dM,Bool.and_eq_true,aQ,Bool.and_eq_true,decide_eq_true_eq] at h
   have h0:∀ (p:List Int) (a:Int),0<=a->aj id 64 a p=true->0<=aY id a p:=by
    intro p
    induction p with
    | nil=>intro a ha _; exact ha
    | cons y p ih=>
     intro a ha hp
     rw [aj,Bool.and_eq_true,aQ,Bool.and_eq_true,decide_eq_true_eq] at hp
     exact ih (id y) (by omega) hp.2
   have:=h0 _ _ (Int.le_refl 0) h.1
   omega
  ·have h0:∀ (p:List Int) (a:Int),0<=a->aj id 64 a p=true->0<=aY id a p:=by
    intro p
    induction p with
    | nil=>intro a ha _; exact ha
    | cons y p ih=>
     intro a ha hp
     rw [aj,Bool.and_eq_true,aQ,Bool.and_eq_true,decide_eq_true_eq] at hp
     exact ih (id y) (by omega) hp.2
   exact h0 _ _ (Int.le_refl 0) h
theorem ig {l:List Int} {k:Nat} (h:aj id 64 0 (l.take k)=true) (hk:l.length<=k) (hl:1<=l.length/\l.length<=8):true=cr l:=by
 rw [cr,fT h hk,Bool.and_true]; symm; rw [Bool.and_eq_true,decide_eq_true_eq,decide_eq_true_eq]; omega
theorem mH {l:List Int} (hl:¬ (1<=l.length/\l.length<=8)):false=cr l:=by
 symm
 rw [cr,Bool.and_eq_false_iff]; left
 rw [Bool.and_eq_false_iff,decide_eq_false_iff_not,decide_eq_false_iff_not]; omega
end Go.Proofs.YtdggohppeeaipaaGreat
namespace Go.Proofs.YtdggohppeeaipaaGreat
open Go.RowKit
def aM (x:Sess):Bool:=(aQ x.seq 0 1048576 && aQ x.last.code 0 99) && aQ x.last.n 0 1048576
def aN (x:Opn):Bool:=aQ x.client 1 8
theorem dt {α:Type} {p:α->Bool} {l:List α} {k:Nat} {x:α} (h:(l.take k).all p=true) (hx:l[k]? = some x) (hp:p x=true):(l.take (k+1)).all p=true:=by
 rw [aD hx,List.all_append,h]; simp [hp]
theorem xU {α:Type} {p:α->Bool} {l:List α} {k:Nat} {x:α} (hx:l[k]? = some x) (hp:p x=false):l.all p=false:=by
 rw [List.all_eq_false]; exact ⟨x,List.mem_of_getElem? hx,by simp [hp]⟩
theorem xQ {α:Type} {p:α->Bool} {l:List α} {k:Nat} (h:(l.take k).all p=true) (hk:l.length<=k):l.all p=true:=by
 rwa [List.take_of_length_le hk] at h
end Go.Proofs.YtdggohppeeaipaaGreat
namespace Go.Proofs.YtdggohppeeaipaaGreat
open Go.RowKit
def aZ (n:Nat):Nat:=if h:n<128 then 1 else aZ (n / 128)+1
termination_by n
decreasing_by omega
theorem mF {n:Nat} (h:¬ n<128):aZ n=aZ (n / 128)+1:=by rw [aZ,dif_neg h]
theorem ij {n:Nat} (h:n<128):aZ n=1:=by rw [aZ,dif_pos h]
theorem gH (n:Nat):1<=aZ n:=by rw [aZ]; split <;> omega
theorem rS:∀ (k n:Nat),n<128 ^ (k+1)->aZ n<=k+1
 | 0,n,h=>by rw [ij (by simpa using h)]; omega
 | k+1,n,h=>by
  by_cases hn:n<128
  ·rw [ij hn]; omega
  ·rw [mF hn]
   have:=rS k (n / 128) (by rw [Nat.div_lt_iff_lt_mul (by omega),<- Nat.pow_succ]; exact h)
   omega
theorem mU {n:Nat} (h:n<18446744073709551616):aZ n<=10:=rS 9 n (Nat.lt_of_lt_of_le h (by decide))
def Dl (n i:Nat):UInt8:=UInt8.ofNat (n / 128 ^ i) ||| 128
def dw (n k:Nat):List UInt8:=(List.range k).map (Dl n)++List.replicate (aZ n - k) 0
def nz (n:Nat):List UInt8:=(dw n (aZ n)).set (aZ n - 1) (Dl n (aZ n - 1) &&& 127)
theorem fb {n k:Nat} (h:k<=aZ n):(dw n k).length=aZ n:=by simp [dw]; omega
theorem ue {n k:Nat} (h:k<aZ n):(dw n k).set k (Dl n k)=dw n (k+1):=by
 unfold dw
 rw [List.set_append_right _ _ (by simp),List.range_succ,List.map_append,List.append_assoc]
 congr 1
 obtain ⟨j,hj⟩:∃ j,aZ n - k=j+1:=⟨aZ n - k - 1,by omega⟩
 rw [hj,show aZ n - (k+1)=j by omega]
 simp [List.replicate_succ]
theorem gY (n:Nat):List.replicate (aZ n) (0:UInt8)=dw n 0:=by simp [dw]
theorem tx {n:Nat} {x:UInt8} (h:(dw n (aZ n))[aZ n - 1]? = some x):x=Dl n (aZ n - 1):=by
 have hp:=gH n
 unfold dw at h
 rw [List.getElem?_append_left (by simp; omega)] at h
 simp only [List.getElem?_map,List.getElem?_range (show aZ n - 1<aZ n by omega),Option.map_some,Option.some.injEq] at h
 exact h.symm
theorem div_pow {n k:Nat}:n / 128 ^ k / 2 ^ 7=n / 128 ^ (k+1):=by show n / 128 ^ k / 128=_; rw [Nat.div_div_eq_div_mul,Nat.pow_succ]
theorem yx (n:Nat):(nz n).length=aZ n:=by rw [nz,List.length_set,fb (Nat.le_refl _)]
theorem mg {n:Nat} (h:n<18446744073709551616):(nz n).length<=10:=by rw [yx]; exact mU h
def er (l:List Int):List UInt8:=l.flatMap fun x=>nz x.toNat
theorem jJ {l:List Int} {k:Nat} {x:Int} (hx:l[k]? = some x):er (l.take k)++nz x.toNat=er (l.take (k+1)):=by
 rw [aD hx]; simp [er]
theorem yq {l:List Int} (h:∀ x ∈ l,x<=64):(er l).length<=10*l.length:=by
 induction l with
 | nil=>simp [er]
 | cons a l ih=>
  have h1:=ih fun x hx=>h x (List.mem_cons_of_mem _ hx)
  have h2:=mg (n:=a.toNat) (by have:=h a (by simp); omega)
  simp only [er,List.flatMap_cons,List.length_append,List.length_cons] at *
  omega
theorem te {l:List Int} (h:cr l=true):∀ x ∈ l,0<x/\x<=64:=by
 rw [cr,Bool.and_eq_true] at h
 have:∀ (l:List Int) (a:Int),0<=a->aj id 64 a l=true->∀ x ∈ l,0<x/\x<=64:=by
  intro l
  induction l with
  | nil=>intro a _ _ x hx; cases hx
  | cons y l ih=>
   intro a ha hl x hx
   rw [aj,Bool.and_eq_true,aQ,Bool.and_eq_true,decide_eq_true_eq,decide_eq_true_eq] at hl
   have h1:a+1<=y:=hl.1.1
   have h2:y<=64:=hl.1.2
   rcases List.mem_cons.1 hx with rfl | hx
   ·omega
   ·exact ih (id y) (by show 0<=y; omega) hl.2 x hx
 exact this l 0 (by omega) h.2
theorem oR {l:List Int} (h:cr l=true):1<=l.length/\l.length<=8:=by
 rw [cr,Bool.and_eq_true,Bool.and_eq_true,decide_eq_true_eq,decide_eq_true_eq] at h
 omega
def fL (l:List Int):List UInt8:=if cr l then er l else []
def cK (l:List Int):Int:=if cr l then 0 else 1
theorem lT {l:List Int} {k:Nat} (hr:cr l=true) (hk:l.length<=k):er (l.take k)=fL l:=by rw [List.take_of_length_le hk,fL,if_pos hr]
theorem j_ {l:List Int} (hr:cr l=false):[]=fL l:=by rw [fL,hr]; rfl
theorem eD {l:List Int} (hr:cr l=true):0=cK l:=by rw [cK,hr]; rfl
theorem fw {l:List Int} (hr:cr l=false):1=cK l:=by rw [cK,hr]; rfl
end Go.Proofs.YtdggohppeeaipaaGreat
namespace Go.Proofs.YtdggohppeeaipaaGreat
open Go.RowKit
def bl (v t:Int) (x:Snap):Bool:=((decide (cK x.chunks=0) && aQ x.set 1 8) && (!x.held || decide (2<=v))) && decide (((x.tag.b.length:Nat):Int)<=t)
def cG (v:Int):Int:=if v<3 then 0 else 16
def cQ (s:State) (v:Int):Bool:=!(decide (16<((s.snaps.length:Nat):Int)) || !(aj Snap.id (s.next - 1) 0 s.snaps)) && s.snaps.all (bl v (cG v))
def bY (s:State) (v:Int):Bool:=((aQ s.version 1 3 && aQ s.next 1 1048576) && aQ s.keep 0 8) && aQ s.quota 0 (if v<3 then 0 else 64)
def gU (s:State):Bool:=aj Sess.client 8 0 s.sess && s.sess.all aM
def fK (s:State):Bool:=aj Opn.set 8 0 s.opens && s.opens.all aN
def mayF (s:State) (v:Int):Int:=if !(aQ v 1 3) then 1 else if (((!bY s v || !gU s) || !fK s) || !cQ s v) then 6 else 0
end Go.Proofs.YtdggohppeeaipaaGreat
namespace Go.Proofs.YtdggohppeeaipaaGreat
open Go.RowKit
theorem JH {s:State} {v:Int} (h:(!(aQ v 1 3))=true):1=mayF s v:=by rw [mayF,if_pos h]
end Go.Proofs.YtdggohppeeaipaaGreat
namespace Go.Proofs.YtdggohppeeaipaaGreat
open Go.RowKit
def dQ (next v:Int) (x:Snap):Bool:=((((cr x.chunks && aQ x.id 1 (IntKind.i64.wrap (next - 1))) && aQ x.set 1 8) && (!x.held || decide (2<=v))) && decide (((x.tag.b.length:Nat):Int)<=16)) && (decide (x.tag=⟨[]⟩) || decide (3<=v))
def aU {α:Type} (p:α->Bool) (key:α->Int) (most:Int) (l:List α):Bool:=aj key most 0 l && l.all p
def jh (s:State) (v:Int):Bool:=((((((decide ((1:Int)<=s.version)) && (decide (s.version<=(3:Int)))) && ((decide ((1:Int)<=s.next)) && (decide (s.next<=(1048576:Int))))) && ((decide ((0:Int)<=s.keep)) && (decide (s.keep<=(8:Int))))) && ((decide ((0:Int)<=s.quota)) && (decide (s.quota<=(64:Int))))) && (decide (s.quota=(0:Int)) || decide ((3:Int)<=v))) && decide (((s.snaps.length:Nat):Int)<=(16:Int))
theorem jM {α:Type} {p:α->Bool} {key:α->Int} {most:Int} {l:List α} {k:Nat} {x:α} (hx:l[k]? = some x):aU p key most (l.take (k+1))=(aU p key most (l.take k) && (aQ (key x) 1 most && p x) && (decide (((k:Nat):Int)=(0:Int)) || decide (aY key 0 (l.take k)<key x))):=by
 unfold aU
 rw [aD hx,dM,List.all_append]
 have e:aQ (key x) (aY key 0 (l.take k)+1) most=true↔(aY key 0 (l.take k)<key x/\key x<=most):=by
  unfold aQ; rw [Bool.and_eq_true,decide_eq_true_eq,decide_eq_true_eq]; omega
 have e1:aQ (key x) 1 most=true↔(1<=key x/\key x<=most):=by
  unfold aQ; rw [Bool.and_eq_true,decide_eq_true_eq,decide_eq_true_eq]
 have hp:∀ (q:List α) (a:Int),0<=a->aj key most a q=true->q≠[]->1<=aY key a q:=by
  intro q
  induction q with
  | nil=>intro a _ _ h; exact absurd rfl h
  | cons y q ih=>
   intro a ha hq _
   rw [aj,Bool.and_eq_true,aQ,Bool.and_eq_true,decide_eq_true_eq] at hq
   cases q with
   | nil=>show 1<=key y; omega
   | cons z q=>exact ih (key y) (by omega) hq.2 (by simp)
 cases hr:aj key most 0 (l.take k) with
 | false=>simp
 | true=>
  by_cases hk:k=0
  ·subst hk
   have h0:aY key 0 (l.take 0)=0:=rfl
   have e2:aQ (key x) (aY key 0 (l.take 0)+1) most=aQ (key x) 1 most:=by rw [h0]; rfl
   rw [e2]; simp
  ·have hne:l.take k≠[]:=by
    intro h
    have h3:(l.take k).length=0:=by rw [h]; rfl
    have h2:=tw hx
    rw [List.length_take] at h3
    omega
   have h1:=hp _ _ (Int.le_refl 0) hr hne
   have e3:aQ (key x) (aY key 0 (l.take k)+1) most=(aQ (key x) 1 most && decide (aY key 0 (l.take k)<key x)):=by
    rw [Bool.eq_iff_iff,Bool.and_eq_true,e,e1,decide_eq_true_eq]; omega
   have e4:decide (((k:Nat):Int)=(0:Int))=false:=decide_eq_false (by omega)
   rw [e3,e4]
   cases aQ (key x) 1 most <;> cases decide (aY key 0 (l.take k)<key x) <;> cases (l.take k).all p <;> cases hpx:p x <;> simp [hpx]
end Go.Proofs.YtdggohppeeaipaaGreat
namespace Go.Proofs.YtdggohppeeaipaaGreat
open Go.RowKit
theorem xC {B:Bool} {l:List Sess} {k:Nat} {x:Sess} (hx:l[k]? = some x):(B && aU aM Sess.client 8 (l.take (k+1)))=(((((((B && aU aM Sess.client 8 (l.take k)) && ((decide ((1:Int)<=x.client)) && (decide (x.client<=(8:Int))))) && ((decide ((0:Int)<=x.seq)) && (decide (x.seq<=(1048576:Int))))) && ((decide ((0:Int)<=x.last.code)) && (decide (x.last.code<=(99:Int))))) && ((decide ((0:Int)<=x.last.n)) && (decide (x.last.n<=(1048576:Int)))))) && (decide (((k:Nat):Int)=(0:Int)) || decide (aY Sess.client 0 (l.take k)<x.client))):=by
 rw [jM hx]
 show (B && (_ && (((decide ((1:Int)<=x.client)) && (decide (x.client<=(8:Int)))) && ((((decide ((0:Int)<=x.seq)) && (decide (x.seq<=(1048576:Int)))) && ((decide ((0:Int)<=x.last.code)) && (decide (x.last.code<=(99:Int))))) && ((decide ((0:Int)<=x.last.n)) && (decide (x.last.n<=(1048576:Int)))))) && _))=_
 cases B <;> cases aU aM Sess.client 8 (l.take k) <;> cases ((decide ((1:Int)<=x.client)) && (decide (x.client<=(8:Int)))) <;> cases ((decide ((0:Int)<=x.seq)) && (decide (x.seq<=(1048576:Int)))) <;> cases ((decide ((0:Int)<=x.last.code)) && (decide (x.last.code<=(99:Int)))) <;> cases ((decide ((0:Int)<=x.last.n)) && (decide (x.last.n<=(1048576:Int)))) <;> rfl
theorem wg {B:Bool} {l:List Opn} {k:Nat} {x:Opn} (hx:l[k]? = some x):(B && aU aN Opn.set 8 (l.take (k+1)))=((((B && aU aN Opn.set 8 (l.take k)) && ((decide ((1:Int)<=x.set)) && (decide (x.set<=(8:Int))))) && ((decide ((1:Int)<=x.client)) && (decide (x.client<=(8:Int))))) && (decide (((k:Nat):Int)=(0:Int)) || decide (aY Opn.set 0 (l.take k)<x.set))):=by
 rw [jM hx]
 show (B && (_ && (((decide ((1:Int)<=x.set)) && (decide (x.set<=(8:Int)))) && ((decide ((1:Int)<=x.client)) && (decide (x.client<=(8:Int))))) && _))=_
 cases B <;> cases aU aN Opn.set 8 (l.take k) <;> cases ((decide ((1:Int)<=x.set)) && (decide (x.set<=(8:Int)))) <;> cases ((decide ((1:Int)<=x.client)) && (decide (x.client<=(8:Int)))) <;> rfl
def cA (s:State) (v:Int) (l:List Snap):Bool:=aU (dQ s.next v) Snap.id (IntKind.i64.wrap (s.next - 1)) l
theorem gB {B:Bool} {s:State} {v:Int} {l:List Snap} {k:Nat} {x:Snap} (hx:l[k]? = some x):(B && cA s v (l.take (k+1)))=(((B && cA s v (l.take k)) && dQ s.next v x) && (decide (((k:Nat):Int)=(0:Int)) || decide (aY Snap.id 0 (l.take k)<x.id))):=by
 unfold cA
 rw [jM hx]
 have e:(aQ x.id 1 (IntKind.i64.wrap (s.next - 1)) && dQ s.next v x)=dQ s.next v x:=by
  unfold dQ
  cases aQ x.id 1 (IntKind.i64.wrap (s.next - 1)) <;> simp
 rw [e]
 cases B <;> cases aU (dQ s.next v) Snap.id (IntKind.i64.wrap (s.next - 1)) (l.take k) <;> cases dQ s.next v x <;> rfl
theorem iw {α:Type} {key:α->Int} {most:Int}:∀ {l:List α} {a:Int},0<=a->aj key most a l=true->∀ x ∈ l,1<=key x/\key x<=most
 | [],_,_,_,x,hx=>by cases hx
 | y :: l,a,ha,h,x,hx=>by
  rw [aj,Bool.and_eq_true,aQ,Bool.and_eq_true,decide_eq_true_eq,decide_eq_true_eq] at h
  rcases List.mem_cons.1 hx with rfl | hx
  ·omega
  ·exact iw (by omega) h.2 x hx
theorem D_ {z:Int} (h:I64 z):IntKind.i64.wrap z=z:=I64.wrap h
theorem Gn {v:Int} {x:Snap}:(decide (((x.tag.b.length:Nat):Int)<=16) && (decide (x.tag=⟨[]⟩) || decide (3<=v)))=decide (((x.tag.b.length:Nat):Int)<=cG v):=by
 have e:x.tag=⟨[]⟩↔x.tag.b.length=0:=by
  constructor
  ·intro h; rw [h]; rfl
  ·intro h; cases hx:x.tag with | mk b=>rw [hx] at h; simp at h; rw [h]
 rw [Bool.eq_iff_iff,Bool.and_eq_true,Bool.or_eq_true,decide_eq_true_eq,decide_eq_true_eq,decide_eq_true_eq,decide_eq_true_eq,e,cG]
 split <;> omega
theorem tk (l:List Int):decide (cK l=0)=cr l:=by
 unfold cK; cases cr l <;> rfl
theorem sB {next v:Int} {x:Snap} (hw:IntKind.i64.wrap (next - 1)=next - 1) (h:1<=x.id/\x.id<=next - 1):dQ next v x=bl v (cG v) x:=by
 have e:aQ x.id 1 (next - 1)=true:=by rw [aQ,Bool.and_eq_true,decide_eq_true_eq,decide_eq_true_eq]; exact h
 unfold dQ bl
 rw [hw,e,tk,<- Gn]
 cases cr x.chunks <;> cases aQ x.set 1 8 <;> cases (!x.held || decide (2<=v)) <;> simp
theorem AD {q v:Int}:(((decide ((0:Int)<=q)) && (decide (q<=(64:Int)))) && (decide (q=(0:Int)) || decide ((3:Int)<=v)))=aQ q 0 (if v<3 then 0 else 64):=by
 rw [Bool.eq_iff_iff,aQ]
 simp only [Bool.and_eq_true,Bool.or_eq_true,decide_eq_true_eq]
 split <;> omega
theorem HH {s:State} {v:Int} {k k2 k3:Nat} (h1:s.sess.length<=k) (h2:s.opens.length<=k2) (h3:s.snaps.length<=k3) :
  (((jh s v && aU aM Sess.client 8 (s.sess.take k)) && aU aN Opn.set 8 (s.opens.take k2)) && cA s v (s.snaps.take k3)) = !(((!bY s v || !gU s) || !fK s) || !cQ s v):=by
 rw [List.take_of_length_le h1,List.take_of_length_le h2,List.take_of_length_le h3]
 have e0:jh s v=(bY s v && decide (((s.snaps.length:Nat):Int)<=(16:Int))):=by
  unfold jh bY
  rw [<- AD]
  show ((((_ && aQ s.next 1 1048576) && _) && _) && _ && _)=_
  simp only [aQ,Bool.and_assoc]
 have e1:aU aM Sess.client 8 s.sess=gU s:=rfl
 have e2:aU aN Opn.set 8 s.opens=fK s:=rfl
 rw [e0,e1,e2]
 cases hn:bY s v with
 | false=>simp
 | true=>
  have hnx:1<=s.next/\s.next<=1048576:=by
   unfold bY at hn
   simp only [Bool.and_eq_true,aQ,decide_eq_true_eq] at hn
   exact hn.1.1.2
  have hw:IntKind.i64.wrap (s.next - 1)=s.next - 1:=D_ ⟨by omega,by omega⟩
  have e3:(decide (((s.snaps.length:Nat):Int)<=(16:Int)) && cA s v s.snaps)=cQ s v:=by
   unfold cA aU cQ
   rw [hw]
   have ed:decide (16<((s.snaps.length:Nat):Int)) = !decide (((s.snaps.length:Nat):Int)<=(16:Int)):=by
    rw [<- decide_not,Bool.eq_iff_iff,decide_eq_true_eq,decide_eq_true_eq]; omega
   rw [ed]
   cases hr:aj Snap.id (s.next - 1) 0 s.snaps with
   | false=>simp
   | true=>
    have:s.snaps.all (dQ s.next v)=s.snaps.all (bl v (cG v)):=by
     rw [Bool.eq_iff_iff,List.all_eq_true,List.all_eq_true]
     constructor
     ·intro h x hx; rw [<- sB hw (iw (Int.le_refl 0) hr x hx)]; exact h x hx
     ·intro h x hx; rw [sB hw (iw (Int.le_refl 0) hr x hx)]; exact h x hx
    rw [this]
    cases decide (((s.snaps.length:Nat):Int)<=(16:Int)) <;> simp
  rw [<- e3]
  cases gU s <;> cases fK s <;> cases decide (((s.snaps.length:Nat):Int)<=(16:Int)) <;> cases cA s v s.snaps <;> rfl
theorem HY {s:State} {v:Int} {k k2 k3:Nat} (hv:(!(aQ v 1 3))=false) (h1:s.sess.length<=k) (h2:s.opens.length<=k2) (h3:s.snaps.length<=k3)
  (h:(!(((jh s v && aU aM Sess.client 8 (s.sess.take k)) && aU aN Opn.set 8 (s.opens.take k2)) && cA s v (s.snaps.take k3)))=true):6=mayF s v:=by
 rw [HH h1 h2 h3,Bool.not_not] at h
 rw [mayF,hv,if_neg (by decide),if_pos h]
theorem ID {s:State} {v:Int} {k k2 k3:Nat} (hv:(!(aQ v 1 3))=false) (h1:s.sess.length<=k) (h2:s.opens.length<=k2) (h3:s.snaps.length<=k3)
  (h:(!(((jh s v && aU aM Sess.client 8 (s.sess.take k)) && aU aN Opn.set 8 (s.opens.take k2)) && cA s v (s.snaps.take k3)))=false):0=mayF s v:=by
 rw [HH h1 h2 h3,Bool.not_not] at h
 rw [mayF,hv,if_neg (by decide),h,if_neg (by decide)]
end Go.Proofs.YtdggohppeeaipaaGreat
namespace Go.Proofs.YtdggohppeeaipaaGreat
open Go.RowKit
def bC (k:Int):Int:=mO 0 k [((1:Int),(1:Int)),((2:Int),(1:Int)),((3:Int),(1:Int)),((4:Int),(1:Int)),((5:Int),(1:Int)),((6:Int),(1:Int)),((7:Int),(1:Int)),((8:Int),(1:Int)),((9:Int),(2:Int)),((10:Int),(2:Int)),((11:Int),(3:Int)),((12:Int),(3:Int))]
theorem DK {k:Int} (h:1<=k/\k<=12):bC k=if k<=8 then 1 else if k<=10 then 2 else 3:=by
 have:k=1\/k=2\/k=3\/k=4\/k=5\/k=6\/k=7\/k=8\/k=9\/k=10\/k=11\/k=12:=by omega
 rcases this with rfl | rfl | rfl | rfl | rfl | rfl | rfl | rfl | rfl | rfl | rfl | rfl <;> rfl
theorem BU {k:Int} (h:¬ (1<=k/\k<=12)):bC k=0:=by
 unfold bC
 simp only [mO]
 repeat rw [if_neg (by omega)]
theorem lf {n a b:Int} (h:aQ n a b=true):a<=n/\n<=b:=by unfold aQ at h; rw [Bool.and_eq_true,decide_eq_true_eq,decide_eq_true_eq] at h; exact h
theorem JW {n a b:Int} (h:aQ n a b=false):¬ (a<=n/\n<=b):=fun h2=>by
 have:aQ n a b=true:=by unfold aQ; rw [Bool.and_eq_true,decide_eq_true_eq,decide_eq_true_eq]; exact h2
 rw [h] at this; cases this
def Dj (c:Command):Command:={ c with chunks:=c.chunks.take 12,text:=c.text.cut 0 40 }
def fi (x:Int) (l:List Int):Int:=match l.findIdx? (fun y=>decide (x=y)) with | some i=>(i:Int) | none=>-1
theorem AQ {x y:Int} {l:List Int} {k:Nat} (h:∀ j y,j<k->l[j]? = some y->¬ x=y) (hy:l[k]? = some y) (hxy:x=y):(k:Int)=fi x l:=by
 have:l.findIdx? (fun y=>decide (x=y))=some k:=by
  obtain ⟨hk,rfl⟩:=List.getElem?_eq_some_iff.1 hy
  rw [List.findIdx?_eq_some_iff_getElem]
  exact ⟨hk,decide_eq_true hxy,fun j hj=>by simpa using h j _ hj (List.getElem?_eq_getElem (by omega))⟩
 simp [fi,this]
theorem vC (x:Int) (l:List Int):decide (0<=fi x l)=l.contains x:=by
 unfold fi
 cases h:l.findIdx? (fun y=>decide (x=y)) with
 | none=>
  rw [List.findIdx?_eq_none_iff] at h
  have:l.contains x=false:=by
   rw [<- Bool.not_eq_true,List.contains_iff_mem]
   intro hm; have:=h x hm; simp at this
  rw [this]; rfl
 | some i=>
  rw [List.findIdx?_eq_some_iff_getElem] at h
  obtain ⟨hi,hp,_⟩:=h
  have:l.contains x=true:=by
   rw [List.contains_iff_mem,of_decide_eq_true hp]; exact List.getElem_mem hi
  rw [this]; simp
def fP (n most:Int) (named:Bool):Bool:=if named then (decide (1<=n) && decide (n<=most)) else decide (n=0)
def fS (k:Int):Int × Int:=mO (0,0) k [((6:Int),((0:Int),(8:Int))),((8:Int),((2:Int),(3:Int))),((12:Int),((0:Int),(64:Int)))]
def uG (c:Command):Bool:=if c.kind=3 then cr c.chunks else decide (((c.chunks.length:Nat):Int)=0)
def Hk (c:Command):Bool:=if c.kind=11 then decide (((c.text.b.length:Nat):Int)<=16) else decide (c.text=⟨[]⟩)
def dr (c:Command):Bool:=((((((((decide ((fS c.kind).1<=c.n) && decide (c.n<=(fS c.kind).2)) && uG c) && Hk c) && fP c.client 8 (!([(8:Int)].contains c.kind))) && fP c.seq 1048576 (!([(1:Int),8].contains c.kind))) && fP c.set 8 ([(2:Int),3,4].contains c.kind)) && fP c.id 1048576 ([(5:Int),7,9,10,11].contains c.kind)))
def bh (c:Command) (v:Int):Int:=if !(aQ v 1 3) || decide (bC c.kind=0) then 1 else if v<bC c.kind then 10 else if !dr c then 1 else 0
end Go.Proofs.YtdggohppeeaipaaGreat
namespace Go.Proofs.YtdggohppeeaipaaGreat
open Go.RowKit
def Eu (n:Int) (used:Bool) (lo hi:Int):Bool:=if used then (decide (lo<=n) && decide (n<=hi)) else decide (n=0)
def iQ (k:Int):Int × Int:=(if k=8 then 2 else 0,if k=8 then 3 else if k=12 then 64 else 8)
theorem Dy {s:Str}:decide (((s.b.length:Nat):Int)=0)=decide (s=⟨[]⟩):=by
 cases s with | mk b=>
 cases b with
 | nil=>simp
 | cons a t=>rw [Bool.eq_iff_iff]; simp; omega
theorem rv {k:Int}:(!decide (k=8))=(!([(8:Int)].contains k)):=by
 rw [Bool.eq_iff_iff]; simp
theorem AX {k:Int}:(!decide (k=8) && !decide (k=1))=(!([(1:Int),8].contains k)):=by
 rw [Bool.eq_iff_iff]; simp; omega
theorem Am {k:Int}:(decide (2<=k) && decide (k<=4))=([(2:Int),3,4].contains k):=by
 rw [Bool.eq_iff_iff]; simp; omega
theorem Ce {k:Int}:((decide (k=5) || decide (k=7)) || (decide (9<=k) && decide (k<=11)))=([(5:Int),7,9,10,11].contains k):=by
 rw [Bool.eq_iff_iff]; simp; omega
theorem FW {k n:Int}:Eu n ((decide (k=6) || decide (k=8)) || decide (k=12)) (iQ k).1 (iQ k).2=(decide ((fS k).1<=n) && decide (n<=(fS k).2)):=by
 by_cases h6:k=6
 ·subst h6; rfl
 by_cases h8:k=8
 ·subst h8; rfl
 by_cases h12:k=12
 ·subst h12; rfl
 have e:fS k=(0,0):=by simp [fS,mO,h6,h8,h12]
 rw [e,Bool.eq_iff_iff]
 simp [Eu,h6,h8,h12]
 omega
theorem GO {c:Command}:(decide (((c.text.b.length:Nat):Int)=0) || (decide (c.kind=11) && decide (((c.text.b.length:Nat):Int)<=16)))=Hk c:=by
 unfold Hk
 by_cases h:c.kind=11
 ·rw [if_pos h,Bool.eq_iff_iff]; simp only [Bool.or_eq_true,Bool.and_eq_true,decide_eq_true_eq,h,true_and]; omega
 ·rw [if_neg h,Dy]; simp [h]
theorem JB {n m:Int} {u:Bool}:Eu n u 1 m=fP n m u:=rfl
theorem yf {c:Command} :
  ((((((Eu c.client (!decide (c.kind=8)) 1 8 && Eu c.seq (!decide (c.kind=8) && !decide (c.kind=1)) 1 1048576) && Eu c.set (decide (2<=c.kind) && decide (c.kind<=4)) 1 8) &&
   Eu c.id ((decide (c.kind=5) || decide (c.kind=7)) || (decide (9<=c.kind) && decide (c.kind<=11))) 1 1048576) &&
   Eu c.n ((decide (c.kind=6) || decide (c.kind=8)) || decide (c.kind=12)) (iQ c.kind).1 (iQ c.kind).2) && uG c) &&
   (decide (((c.text.b.length:Nat):Int)=0) || (decide (c.kind=11) && decide (((c.text.b.length:Nat):Int)<=16))))=dr c:=by
 rw [AX,rv,Am,Ce,FW,GO]
 unfold dr
 simp only [JB]
 ac_rfl
theorem Iv {c:Command} {v:Int} (h:(!(aQ v 1 3) || decide (bC c.kind=0))=true):1=bh c v:=by rw [bh,if_pos h]
theorem GL {c:Command} {v:Int} (h:(!(aQ v 1 3) || decide (bC c.kind=0))=false) (h2:v<bC c.kind):10=bh c v:=by rw [bh,h,if_neg (by decide),if_pos h2]
theorem EO {c:Command} {v:Int} (h:(!(aQ v 1 3) || decide (bC c.kind=0))=false) (h2:¬ v<bC c.kind) (h3:(!dr c)=true):1=bh c v:=by rw [bh,h,if_neg (by decide),if_neg h2,if_pos h3]
theorem Hy {c:Command} {v:Int} (h:(!(aQ v 1 3) || decide (bC c.kind=0))=false) (h2:¬ v<bC c.kind) (h3:(!dr c)=false):0=bh c v:=by rw [bh,h,if_neg (by decide),if_neg h2,h3,if_neg (by decide)]
end Go.Proofs.YtdggohppeeaipaaGreat
namespace Go.Proofs.YtdggohppeeaipaaGreat
open Go.RowKit
end Go.Proofs.YtdggohppeeaipaaGreat
namespace Go.Proofs.YtdggohppeeaipaaGreat
open Go.RowKit
def ku (k:Int):Bool:=decide (1<=k) && decide (k<=3)
theorem uC {α:Type} {a b:List α} {k:Nat} {d:α} (h:a.take k=b.take k) (ha:k<a.length) (hb:k<b.length) (e:a.getD k d=b.getD k d):a.take (k+1)=b.take (k+1):=by
 have h1:a[k]? = some (a.getD k d):=by rw [List.getD_eq_getElem?_getD,List.getElem?_eq_getElem ha]; rfl
 have h2:b[k]? = some (b.getD k d):=by rw [List.getD_eq_getElem?_getD,List.getElem?_eq_getElem hb]; rfl
 rw [aD h1,aD h2,h,e]
theorem na {s:Str} {n:Nat} (h:(s.b.length:Int)<=n):s=⟨s.b.take n⟩:=by
 cases s; rw [List.take_of_length_le (by simpa using h)]
theorem FY {l:List Int} {k:Nat} {x:Int} (hx:l[k]? = some x):x=aY id 0 (l.take (k+1)):=bL (key:=id) hx
theorem BB {l:List Int} {k:Nat} {x:Int} (h:aj id 64 0 (l.take k)=true) (hx:l[k]? = some x) (h1:aY id 0 (l.take k)<x) (h2:x<=64):aj id 64 0 (l.take (k+1))=true:=gk (key:=id) h hx (by dsimp only [id]; omega) (by dsimp only [id]; omega)
def Ie (l:List Int):List (Nat × LI):=[(5,{ σ:=Nat,F:=fun k=>([(3,one (.int (aY id 0 (l.take k)))),(14,one (.fz .int (l))),(15,one (.int (l).length)),(16,one (.int k))],[]),J:=fun k=>k<=l.length/\aj id 64 0 (l.take k)=true/\1<=l.length/\l.length<=8,μ:=fun k=>(l).length - k })]
def Ek (a:List Int) (b:List Int):List (Nat × LI):=[(4,{ σ:=Nat,F:=fun k=>([(0,one (.fz .int (a))),(1,one (.fz .int (b))),(5,one (.int k))],[]),J:=fun k=>k<=a.length/\a.length=b.length/\a.take k=b.take k,μ:=fun k=>a.length - k })]
theorem Dw (k:Int) (r0:Bool):cM aF iy [] Tryz.f120 [.c (.int (k))] [] [.c (.bool (.atom (r0)))]=(I64 k->(decide ((1:Int)<=k) && decide (k<=(3:Int)))=r0):=by kernel_rfl
theorem CW (k:Int):Sat Tryz.prog (au aF) 120 [.c (.int (k))] [] ⟨[],[.c (.bool (.atom ((ku k))))],none,false⟩:=by
 refine aR cT [] Tryz.func120 (by decide) (by kernel_rfl) ?_
 rw [Dw]
 grind [ku]
theorem HE (l:List Int) (r0:Bool):cM aF iy (Ie l) Tryz.f140 [.c (.fz .int (l))] [] [.c (.bool (.atom (r0)))]=((fun (q3:Int)=>(fun (q2:Int)=>(fun (q1:Nat)=>(fun (q0:Prop)=>l.length*(8:Nat)<=(140737488355328:Nat)->(q3<(1:Int)\/(8:Int)<q3->false=r0)/\((1:Int)<=q3/\q3<=(8:Int)->∃ (s0:Nat),(q2=aY id q2 (List.take s0 l)/\l=l/\q3=(↑q1:Int)/\q2=(↑s0:Int))/\(s0<=q1/\aj id (64:Int) q2 (List.take s0 l)=true/\q0)/\∀ (s:Nat),s<=q1/\aj id (64:Int) q2 (List.take s l)=true/\q0->((↑s:Int)<(↑q1:Int)->q2<=(↑s:Int)/\(↑s:Int)<q3/\∀ (x:Int),l[s]? = some x->I64 x->(x<=aY id q2 (List.take s l)\/(64:Int)<x->false=r0)/\(aY id q2 (List.take s l)<x/\x<=(64:Int)->I64 ((↑s:Int)+(1:Int))/\∃ (s':Nat),(x=aY id q2 (List.take s' l)/\l=l/\(↑q1:Int)=(↑q1:Int)/\(↑s:Int)+(1:Int)=(↑s':Int))/\(s' <= q1/\aj id (64:Int) q2 (List.take s' l)=true/\q0)/\q1 - s' < q1 - s))/\((↑q1:Int)<=(↑s:Int)->true=r0))) ((1:Nat)<=q1/\q1<=(8:Nat))) l.length) (0:Int)) (↑l.length:Int)):=by kernel_rfl
theorem HM (l:List Int):Sat Tryz.prog (au aF) 140 [.c (.fz .int (l))] [] ⟨[],[.c (.bool (.atom ((cr l))))],none,false⟩:=by
 refine aR cT (Ie l) Tryz.func140 (by decide) (by kernel_rfl) ?_
 rw [HE]
 (repeat' (first | refine And.intro ?_ ?_ | intro))
 all_goals try (grind [mH,gz,ig,FY,BB,aj,aY])
 all_goals (refine ⟨0,?_⟩; (repeat' (first | refine And.intro ?_ ?_ | intro)))
 all_goals try (grind [mH,gz,ig,FY,BB,aj,aY])
 all_goals (refine ⟨‹Nat› + 1,?_⟩; (repeat' (first | refine And.intro ?_ ?_ | intro)))
 all_goals grind [mH,gz,ig,FY,BB,aj,aY]
theorem Ft (a:List Int) (b:List Int) (r0:Bool):cM aF iy (Ek a b) Tryz.f130 [.c (.fz .int (a)),.c (.fz .int (b))] [] [.c (.bool (.atom (r0)))]=((fun (q1:Nat)=>(fun (q0:Int)=>a.length*(8:Nat)<=(140737488355328:Nat)->b.length*(8:Nat)<=(140737488355328:Nat)->(¬q0=(↑b.length:Int)->false=r0)/\(q0=(↑b.length:Int)->∃ (s0:Nat),(a=a/\b=b/\(0:Int)=(↑s0:Int))/\(s0<=q1/\q1=b.length/\List.take s0 a=List.take s0 b)/\∀ (s:Nat),(fun (q2:Prop)=>s<=q1/\q1=b.length/\List.take s a=List.take s b->((↑s:Int)<q0->(0:Int)<=(↑s:Int)/\(↑s:Int)<q0/\(0:Int)<=(↑s:Int)/\(↑s:Int)<(↑b.length:Int)/\(I64 (a.getD s (dflt Sh.int))->I64 (b.getD s (dflt Sh.int))->(¬q2->false=r0)/\(q2->I64 ((↑s:Int)+(1:Int))/\∃ (s':Nat),(a=a/\b=b/\(↑s:Int)+(1:Int)=(↑s':Int))/\(s' <= q1/\q1=b.length/\List.take s' a=List.take s' b)/\q1 - s' < q1 - s)))/\(q0<=(↑s:Int)->true=r0)) (a.getD s (dflt Sh.int)=b.getD s (dflt Sh.int)))) (↑a.length:Int)) a.length):=by kernel_rfl
theorem GU (a:List Int) (b:List Int):Sat Tryz.prog (au aF) 130 [.c (.fz .int (a)),.c (.fz .int (b))] [] ⟨[],[.c (.bool (.atom ((decide (a=b)))))],none,false⟩:=by
 refine aR cT (Ek a b) Tryz.func130 (by decide) (by kernel_rfl) ?_
 rw [Ft]
 (repeat' (first | refine And.intro ?_ ?_ | intro))
 all_goals try (grind [aD])
 all_goals (refine ⟨0,?_⟩; (repeat' (first | refine And.intro ?_ ?_ | intro)))
 all_goals try (grind [aD])
 all_goals (refine ⟨‹Nat› + 1,?_⟩; (repeat' (first | refine And.intro ?_ ?_ | intro)))
 all_goals first | exact uC (by grind) (by omega) (by omega) (by with_reducible assumption) | grind
theorem FK (x:Int) (r0:Int):cM aF iy [] Tryz.f119 [.c (.int (x))] [] [.c (.int (r0))]=((fun (q0:Option (den Sh.int))=>I64 x->((fun (j:Int)=>if j=(12:Int) then some (3:Int) else (fun (j:Int)=>if j=(11:Int) then some (3:Int) else (fun (j:Int)=>if j=(10:Int) then some (2:Int) else (fun (j:Int)=>if j=(9:Int) then some (2:Int) else (fun (j:Int)=>if j=(8:Int) then q0 else (fun (j:Int)=>if j=(7:Int) then q0 else (fun (j:Int)=>if j=(6:Int) then q0 else (fun (j:Int)=>if j=(5:Int) then q0 else (fun (j:Int)=>if j=(4:Int) then q0 else (fun (j:Int)=>if j=(3:Int) then q0 else (fun (j:Int)=>if j=(2:Int) then q0 else (fun (j:Int)=>if j=(1:Int) then q0 else (fun (_:Int)=>none) j) j) j) j) j) j) j) j) j) j) j) j) x).getD (dflt Sh.int)=r0) (some (1:Int))):=by kernel_rfl
theorem Ff (x:Int):Sat Tryz.prog (au aF) 119 [.c (.int (x))] [] ⟨[],[.c (.int ((bC x)))],none,false⟩:=by
 refine aR cT [] Tryz.func119 (by decide) (by kernel_rfl) ?_
 rw [FK]
 intro _
 simp only [bC,mO]
 by_cases h:1<=x/\x<=12
 ·have h2:x=1\/x=2\/x=3\/x=4\/x=5\/x=6\/x=7\/x=8\/x=9\/x=10\/x=11\/x=12:=by omega
  rcases h2 with rfl | rfl | rfl | rfl | rfl | rfl | rfl | rfl | rfl | rfl | rfl | rfl <;> rfl
 ·have h1:¬ x=1:=by omega
  have h2:¬ x=2:=by omega
  have h3:¬ x=3:=by omega
  have h4:¬ x=4:=by omega
  have h5:¬ x=5:=by omega
  have h6:¬ x=6:=by omega
  have h7:¬ x=7:=by omega
  have h8:¬ x=8:=by omega
  have h9:¬ x=9:=by omega
  have h10:¬ x=10:=by omega
  have h11:¬ x=11:=by omega
  have h12:¬ x=12:=by omega
  simp [h1,h2,h3,h4,h5,h6,h7,h8,h9,h10,h11,h12,dflt]
theorem HG (s:Span) (k:Int) (r0:Bool):cM aF iy [] Tryz.f139 [.agg (cellsOf (.nm .span) s),.c (.int (k))] [] [.c (.bool (.atom (r0)))]=(I64 s.lo->I64 s.hi->I64 k->(decide (s.lo<=k) && decide (k<=s.hi))=r0):=by kernel_rfl
theorem HW (s:Span) (k:Int):Sat Tryz.prog (au aF) 139 [.agg (cellsOf (.nm .span) s),.c (.int (k))] [] ⟨[],[.c (.bool (.atom ((decide (s.lo<=k) && decide (k<=s.hi)))))],none,false⟩:=by
 refine aR cT [] Tryz.func139 (by decide) (by kernel_rfl) ?_
 rw [HG]
 grind
theorem AG (n:Int) (a:Int) (b:Int) (r0:Bool):cM aF iy [] Tryz.f110 [.c (.int (n)),.c (.int (a)),.c (.int (b))] [] [.c (.bool (.atom (r0)))]=(I64 n->I64 a->I64 b->(decide (a<=n) && decide (n<=b))=r0):=by kernel_rfl
theorem AF (n:Int) (a:Int) (b:Int):Sat Tryz.prog (au aF) 110 [.c (.int (n)),.c (.int (a)),.c (.int (b))] [] ⟨[],[.c (.bool (.atom ((aQ n a b))))],none,false⟩:=by
 refine aR cT [] Tryz.func110 (by decide) (by kernel_rfl) ?_
 rw [AG]
 grind [aQ]
theorem IF (n:Int) (a:Int) (b:Int) (r0:Bool):cM aF iy [] Tryz.f67 [.c (.int (n)),.c (.int (a)),.c (.int (b))] [] [.c (.bool (.atom (r0)))]=(I64 n->I64 a->I64 b->(decide (a<=n) && decide (n<=b))=r0):=by kernel_rfl
theorem HL (n:Int) (a:Int) (b:Int):Sat Tryz.prog (au aF) 67 [.c (.int (n)),.c (.int (a)),.c (.int (b))] [] ⟨[],[.c (.bool (.atom ((aQ n a b))))],none,false⟩:=by
 refine aR cT [] Tryz.func67 (by decide) (by kernel_rfl) ?_
 rw [IF]
 grind [aQ]
theorem Hz (n:Int) (a:Int) (b:Int) (r0:Bool):cM aF iy [] Tryz.f69 [.c (.int (n)),.c (.int (a)),.c (.int (b))] [] [.c (.bool (.atom (r0)))]=(I64 n->I64 a->I64 b->(decide (a<=n) && decide (n<=b))=r0):=by kernel_rfl
theorem HQ (n:Int) (a:Int) (b:Int):Sat Tryz.prog (au aF) 69 [.c (.int (n)),.c (.int (a)),.c (.int (b))] [] ⟨[],[.c (.bool (.atom ((aQ n a b))))],none,false⟩:=by
 refine aR cT [] Tryz.func69 (by decide) (by kernel_rfl) ?_
 rw [Hz]
 grind [aQ]
theorem tU (x:Sess) (r0:Int):cM aF iy [] Tryz.f86 [.agg (cellsOf (.nm .sess) x)] [] [.c (.int (r0))]=(I64 x.client->I64 x.seq->I64 x.last.code->I64 x.last.n->x.client=r0):=by kernel_rfl
theorem ux (x:Sess):Sat Tryz.prog (au aF) 86 [.agg (cellsOf (.nm .sess) x)] [] ⟨[],[.c (.int ((x.client)))],none,false⟩:=by
 refine aR cT [] Tryz.func86 (by decide) (by kernel_rfl) ?_
 rw [tU]
 grind
theorem CZ (x:Opn) (r0:Int):cM aF iy [] Tryz.f115 [.agg (cellsOf (.nm .opn) x)] [] [.c (.int (r0))]=(I64 x.set->I64 x.client->x.set=r0):=by kernel_rfl
theorem Cc (x:Opn):Sat Tryz.prog (au aF) 115 [.agg (cellsOf (.nm .opn) x)] [] ⟨[],[.c (.int ((x.set)))],none,false⟩:=by
 refine aR cT [] Tryz.func115 (by decide) (by kernel_rfl) ?_
 rw [CZ]
 grind
theorem Fb (x:Snap) (r0:Int):cM aF iy [] Tryz.f90 [.agg (cellsOf (.nm .snap) x)] [] [.c (.int (r0))]=(I64 x.id->I64 x.set->x.chunks.length*(8:Nat)<=(140737488355328:Nat)->x.tag.b.length<=(140737488355328:Nat)->x.id=r0):=by kernel_rfl
theorem FJ (x:Snap):Sat Tryz.prog (au aF) 90 [.agg (cellsOf (.nm .snap) x)] [] ⟨[],[.c (.int ((x.id)))],none,false⟩:=by
 refine aR cT [] Tryz.func90 (by decide) (by kernel_rfl) ?_
 rw [Fb]
 grind
theorem wR (e:Int) (r0:Reply):cM aF iy [] Tryz.f34 [.c (.int (e))] [] [.agg (cellsOf (.nm .reply) r0)]=(I64 e->e=r0.code/\(0:Int)=r0.n):=by kernel_rfl
theorem wm (e:Int):Sat Tryz.prog (au aF) 34 [.c (.int (e))] [] ⟨[],[.agg (cellsOf (.nm .reply) (⟨e,0⟩))],none,false⟩:=by
 refine aR cT [] Tryz.func34 (by decide) (by kernel_rfl) ?_
 rw [wR]
 grind
def Ba:cC:=(bR 34 (bJ (ah (kC cI) aO) aP fun (e,_) (_)=>⟨[],[.agg (cellsOf (.nm .reply) (⟨e,0⟩))],none,false⟩) (bR 90 (bJ (ah (kT (.nm .snap)) aO) aP fun (x,_) (_)=>⟨[],[.c (.int ((x.id)))],none,false⟩) (bR 115 (bJ (ah (kT (.nm .opn)) aO) aP fun (x,_) (_)=>⟨[],[.c (.int ((x.set)))],none,false⟩) (bR 86 (bJ (ah (kT (.nm .sess)) aO) aP fun (x,_) (_)=>⟨[],[.c (.int ((x.client)))],none,false⟩) (bR 69 (bJ (ah (kC cI) (ah (kC cI) (ah (kC cI) aO))) aP fun (n,a,b,_) (_)=>⟨[],[.c (.bool (.atom ((aQ n a b))))],none,false⟩) (bR 67 (bJ (ah (kC cI) (ah (kC cI) (ah (kC cI) aO))) aP fun (n,a,b,_) (_)=>⟨[],[.c (.bool (.atom ((aQ n a b))))],none,false⟩) (bR 110 (bJ (ah (kC cI) (ah (kC cI) (ah (kC cI) aO))) aP fun (n,a,b,_) (_)=>⟨[],[.c (.bool (.atom ((aQ n a b))))],none,false⟩) (bR 139 (bJ (ah (kT (.nm .span)) (ah (kC cI) aO)) aP fun (s,k,_) (_)=>⟨[],[.c (.bool (.atom ((decide (s.lo<=k) && decide (k<=s.hi)))))],none,false⟩) (bR 119 (bJ (ah (kC cI) aO) aP fun (x,_) (_)=>⟨[],[.c (.int ((bC x)))],none,false⟩) (bR 130 (bJ (ah (kC (cL .int)) (ah (kC (cL .int)) aO)) aP fun (a,b,_) (_)=>⟨[],[.c (.bool (.atom ((decide (a=b)))))],none,false⟩) (bR 140 (bJ (ah (kC (cL .int)) aO) aP fun (l,_) (_)=>⟨[],[.c (.bool (.atom ((cr l))))],none,false⟩) (bR 120 (bJ (ah (kC cI) aO) aP fun (k,_) (_)=>⟨[],[.c (.bool (.atom ((ku k))))],none,false⟩) iy))))))))))))
theorem lz:aX Tryz.prog (au aF) Ba:=(az (ay (ab (av aw) al) ao fun (e,_) (_) _=>wm e ) (az (ay (ab bK al) ao fun (x,_) (_) _=>FJ x ) (az (ay (ab bK al) ao fun (x,_) (_) _=>Cc x ) (az (ay (ab bK al) ao fun (x,_) (_) _=>ux x ) (az (ay (ab (av aw) (ab (av aw) (ab (av aw) al))) ao fun (n,a,b,_) (_) _=>HQ n a b ) (az (ay (ab (av aw) (ab (av aw) (ab (av aw) al))) ao fun (n,a,b,_) (_) _=>HL n a b ) (az (ay (ab (av aw) (ab (av aw) (ab (av aw) al))) ao fun (n,a,b,_) (_) _=>AF n a b ) (az (ay (ab bK (ab (av aw) al)) ao fun (s,k,_) (_) _=>HW s k ) (az (ay (ab (av aw) al) ao fun (x,_) (_) _=>Ff x ) (az (ay (ab (av bO) (ab (av bO) al)) ao fun (a,b,_) (_) _=>GU a b ) (az (ay (ab (av bO) al) ao fun (l,_) (_) _=>HM l ) (az (ay (ab (av aw) al) ao fun (k,_) (_) _=>CW k ) cT))))))))))))
end Go.Proofs.YtdggohppeeaipaaGreat
namespace Go.Proofs.YtdggohppeeaipaaGreat
open Go.RowKit
theorem aq {n:Int} (h1:-9223372036854775808<=n) (h2:n<=9223372036854775807):I64 n:=⟨h1,h2⟩
def ai {α:Type} (key:α->Int) (want:Int) (l:List α):Int:=match l.findIdx? (fun x=>decide (key x=want)) with
 | some i=>(i:Int)
 | none=>-1
section
variable {α:Type} {key:α->Int} {want:Int} {l:List α} {k:Nat} {x:α}
theorem hU:ai key want l = -1↔∀ x ∈ l,¬ key x=want:=by
 unfold ai
 cases h:l.findIdx? (fun x=>decide (key x=want)) with
 | none=>simpa using h
 | some i=>
  rw [List.findIdx?_eq_some_iff_getElem] at h
  obtain ⟨h1,h2,_⟩:=h
  simp only [decide_eq_true_eq] at h2
  constructor
  ·intro h; dsimp only at h; omega
  ·intro h; exact absurd h2 (h _ (List.getElem_mem h1))
theorem dY:ai key want (l.take 0) = -1:=rfl
theorem db (h:ai key want (l.take k) = -1) (hx:l[k]? = some x) (hn:¬ key x=want):ai key want (l.take (k+1)) = -1:=by
 rw [hU] at h ⊢
 rw [aD hx]
 intro y hy
 rcases List.mem_append.1 hy with hy | hy
 ·exact h y hy
 ·rw [List.mem_singleton] at hy; subst hy; exact hn
theorem dv (h:ai key want (l.take k) = -1) (hk:l.length<=k):-1=ai key want l:=by
 rw [List.take_of_length_le hk] at h; exact h.symm
theorem cD (h:ai key want (l.take k) = -1) (hx:l[k]? = some x) (he:key x=want):(k:Int)=ai key want l:=by
 have:l.findIdx? (fun x=>decide (key x=want))=some k:=by
  rw [hU] at h
  obtain ⟨hk,rfl⟩:=List.getElem?_eq_some_iff.1 hx
  rw [List.findIdx?_eq_some_iff_getElem]
  refine ⟨hk,decide_eq_true he,fun j hj=>?_⟩
  have:=h l[j] (by rw [List.mem_take_iff_getElem]; exact ⟨j,by omega,rfl⟩)
  simpa using this
 rw [ai,this]
end
def mc (l:List Sess) (want:Int):List (Nat × LI):=[(2,{ σ:=Nat,F:=fun k=>([(1,one (.int (want))),(2,one (.fn 86 [] [])),(9,one (.fz (.nm .sess) (l))),(10,one (.int (l).length)),(11,one (.int k))],[]),J:=fun k=>k<=l.length/\ai Sess.client want (l.take k) = -1,μ:=fun k=>(l).length - k })]
def mE (l:List Opn) (want:Int):List (Nat × LI):=[(2,{ σ:=Nat,F:=fun k=>([(1,one (.int (want))),(2,one (.fn 115 [] [])),(9,one (.fz (.nm .opn) (l))),(10,one (.int (l).length)),(11,one (.int k))],[]),J:=fun k=>k<=l.length/\ai Opn.set want (l.take k) = -1,μ:=fun k=>(l).length - k })]
def mQ (l:List Snap) (want:Int):List (Nat × LI):=[(2,{ σ:=Nat,F:=fun k=>([(1,one (.int (want))),(2,one (.fn 90 [] [])),(9,one (.fz (.nm .snap) (l))),(10,one (.int (l).length)),(11,one (.int k))],[]),J:=fun k=>k<=l.length/\ai Snap.id want (l.take k) = -1,μ:=fun k=>(l).length - k })]
theorem sV (l:List Sess) (want:Int) (r0:Int):cM aF Ba (mc l want) Tryz.f85 [.c (.fz (.nm .sess) (l)),.c (.int (want)),.c (.fn 86 [] [])] [] [.c (.int (r0))]=((fun (q1:Int)=>(fun (q0:Nat)=>l.length*(32:Nat)<=(140737488355328:Nat)->I64 want->∃ (s0:Nat),(want=want/\l=l/\(↑l.length:Int)=(↑q0:Int)/\(0:Int)=(↑s0:Int))/\(s0<=q0/\ai Sess.client want (List.take s0 l) = -q1)/\∀ (s:Nat),s<=q0/\ai Sess.client want (List.take s l) = -q1->((↑s:Int)<(↑q0:Int)->(0:Int)<=(↑s:Int)/\(↑s:Int)<(↑l.length:Int)/\∀ (x:Sess),l[s]? = some x->I64 x.client->I64 x.seq->I64 x.last.code->I64 x.last.n->I64 x.client->(x.client=want->(↑s:Int)=r0)/\(¬x.client=want->I64 ((↑s:Int)+q1)/\∃ (s':Nat),(want=want/\l=l/\(↑q0:Int)=(↑q0:Int)/\(↑s:Int)+q1=(↑s':Int))/\(s' <= q0/\ai Sess.client want (List.take s' l) = -q1)/\q0 - s' < q0 - s))/\((↑q0:Int)<=(↑s:Int) -> -q1=r0)) l.length) (1:Int)):=by kernel_rfl
theorem qB (l:List Sess) (want:Int):Sat Tryz.prog (au aF) 85 [.c (.fz (.nm .sess) (l)),.c (.int (want)),.c (.fn 86 [] [])] [] ⟨[],[.c (.int ((ai Sess.client want l)))],none,false⟩:=by
 refine aR lz (mc l want) Tryz.func85 (by decide) (by kernel_rfl) ?_
 rw [sV]
 (repeat' (first | with_reducible refine And.intro ?_ ?_ | with_reducible refine and_imp.2 ?_ | intro))
 all_goals try (first | (first | with_reducible rfl | with_reducible assumption | omega | (refine aq ?_ ?_ <;> omega)) | exact (dY (key:=Sess.client)) | exact (cD (key:=Sess.client) (by with_reducible assumption) (by with_reducible assumption) (by with_reducible assumption)) | exact (dv (key:=Sess.client) (by with_reducible assumption) (by omega)) | exact (db (key:=Sess.client) (by with_reducible assumption) (by with_reducible assumption) (by with_reducible assumption)))
 all_goals try (refine ⟨0,?_⟩; (repeat' (first | with_reducible refine And.intro ?_ ?_ | with_reducible refine and_imp.2 ?_ | intro)))
 all_goals try (first | (first | with_reducible rfl | with_reducible assumption | omega | (refine aq ?_ ?_ <;> omega)) | exact (dY (key:=Sess.client)) | exact (cD (key:=Sess.client) (by with_reducible assumption) (by with_reducible assumption) (by with_reducible assumption)) | exact (dv (key:=Sess.client) (by with_reducible assumption) (by omega)) | exact (db (key:=Sess.client) (by with_reducible assumption) (by with_reducible assumption) (by with_reducible assumption)))
 all_goals try (refine ⟨‹Nat› + 1,?_⟩; (repeat' (first | with_reducible refine And.intro ?_ ?_ | with_reducible refine and_imp.2 ?_ | intro)))
 all_goals (first | (first | with_reducible rfl | with_reducible assumption | omega | (refine aq ?_ ?_ <;> omega)) | exact (dY (key:=Sess.client)) | exact (cD (key:=Sess.client) (by with_reducible assumption) (by with_reducible assumption) (by with_reducible assumption)) | exact (dv (key:=Sess.client) (by with_reducible assumption) (by omega)) | exact (db (key:=Sess.client) (by with_reducible assumption) (by with_reducible assumption) (by with_reducible assumption)))
theorem sR (l:List Opn) (want:Int) (r0:Int):cM aF Ba (mE l want) Tryz.f123 [.c (.fz (.nm .opn) (l)),.c (.int (want)),.c (.fn 115 [] [])] [] [.c (.int (r0))]=((fun (q1:Int)=>(fun (q0:Nat)=>l.length*(16:Nat)<=(140737488355328:Nat)->I64 want->∃ (s0:Nat),(want=want/\l=l/\(↑l.length:Int)=(↑q0:Int)/\(0:Int)=(↑s0:Int))/\(s0<=q0/\ai Opn.set want (List.take s0 l) = -q1)/\∀ (s:Nat),s<=q0/\ai Opn.set want (List.take s l) = -q1->((↑s:Int)<(↑q0:Int)->(0:Int)<=(↑s:Int)/\(↑s:Int)<(↑l.length:Int)/\∀ (x:Opn),l[s]? = some x->I64 x.set->I64 x.client->I64 x.set->(x.set=want->(↑s:Int)=r0)/\(¬x.set=want->I64 ((↑s:Int)+q1)/\∃ (s':Nat),(want=want/\l=l/\(↑q0:Int)=(↑q0:Int)/\(↑s:Int)+q1=(↑s':Int))/\(s' <= q0/\ai Opn.set want (List.take s' l) = -q1)/\q0 - s' < q0 - s))/\((↑q0:Int)<=(↑s:Int) -> -q1=r0)) l.length) (1:Int)):=by kernel_rfl
theorem rF (l:List Opn) (want:Int):Sat Tryz.prog (au aF) 123 [.c (.fz (.nm .opn) (l)),.c (.int (want)),.c (.fn 115 [] [])] [] ⟨[],[.c (.int ((ai Opn.set want l)))],none,false⟩:=by
 refine aR lz (mE l want) Tryz.func123 (by decide) (by kernel_rfl) ?_
 rw [sR]
 (repeat' (first | with_reducible refine And.intro ?_ ?_ | with_reducible refine and_imp.2 ?_ | intro))
 all_goals try (first | (first | with_reducible rfl | with_reducible assumption | omega | (refine aq ?_ ?_ <;> omega)) | exact (dY (key:=Opn.set)) | exact (cD (key:=Opn.set) (by with_reducible assumption) (by with_reducible assumption) (by with_reducible assumption)) | exact (dv (key:=Opn.set) (by with_reducible assumption) (by omega)) | exact (db (key:=Opn.set) (by with_reducible assumption) (by with_reducible assumption) (by with_reducible assumption)))
 all_goals try (refine ⟨0,?_⟩; (repeat' (first | with_reducible refine And.intro ?_ ?_ | with_reducible refine and_imp.2 ?_ | intro)))
 all_goals try (first | (first | with_reducible rfl | with_reducible assumption | omega | (refine aq ?_ ?_ <;> omega)) | exact (dY (key:=Opn.set)) | exact (cD (key:=Opn.set) (by with_reducible assumption) (by with_reducible assumption) (by with_reducible assumption)) | exact (dv (key:=Opn.set) (by with_reducible assumption) (by omega)) | exact (db (key:=Opn.set) (by with_reducible assumption) (by with_reducible assumption) (by with_reducible assumption)))
 all_goals try (refine ⟨‹Nat› + 1,?_⟩; (repeat' (first | with_reducible refine And.intro ?_ ?_ | with_reducible refine and_imp.2 ?_ | intro)))
 all_goals (first | (first | with_reducible rfl | with_reducible assumption | omega | (refine aq ?_ ?_ <;> omega)) | exact (dY (key:=Opn.set)) | exact (cD (key:=Opn.set) (by with_reducible assumption) (by with_reducible assumption) (by with_reducible assumption)) | exact (dv (key:=Opn.set) (by with_reducible assumption) (by omega)) | exact (db (key:=Opn.set) (by with_reducible assumption) (by with_reducible assumption) (by with_reducible assumption)))
theorem qD (l:List Snap) (want:Int) (r0:Int):cM aF Ba (mQ l want) Tryz.f89 [.c (.fz (.nm .snap) (l)),.c (.int (want)),.c (.fn 90 [] [])] [] [.c (.int (r0))]=((fun (q1:Int)=>(fun (q0:Nat)=>l.length*(64:Nat)<=(140737488355328:Nat)->I64 want->∃ (s0:Nat),(want=want/\l=l/\(↑l.length:Int)=(↑q0:Int)/\(0:Int)=(↑s0:Int))/\(s0<=q0/\ai Snap.id want (List.take s0 l) = -q1)/\∀ (s:Nat),s<=q0/\ai Snap.id want (List.take s l) = -q1->((↑s:Int)<(↑q0:Int)->(0:Int)<=(↑s:Int)/\(↑s:Int)<(↑l.length:Int)/\∀ (x:Snap),l[s]? = some x->I64 x.id->I64 x.set->x.chunks.length*(8:Nat)<=(140737488355328:Nat)->x.tag.b.length<=(140737488355328:Nat)->I64 x.id->(x.id=want->(↑s:Int)=r0)/\(¬x.id=want->I64 ((↑s:Int)+q1)/\∃ (s':Nat),(want=want/\l=l/\(↑q0:Int)=(↑q0:Int)/\(↑s:Int)+q1=(↑s':Int))/\(s' <= q0/\ai Snap.id want (List.take s' l) = -q1)/\q0 - s' < q0 - s))/\((↑q0:Int)<=(↑s:Int) -> -q1=r0)) l.length) (1:Int)):=by kernel_rfl
theorem qC (l:List Snap) (want:Int):Sat Tryz.prog (au aF) 89 [.c (.fz (.nm .snap) (l)),.c (.int (want)),.c (.fn 90 [] [])] [] ⟨[],[.c (.int ((ai Snap.id want l)))],none,false⟩:=by
 refine aR lz (mQ l want) Tryz.func89 (by decide) (by kernel_rfl) ?_
 rw [qD]
 (repeat' (first | with_reducible refine And.intro ?_ ?_ | with_reducible refine and_imp.2 ?_ | intro))
 all_goals try (first | (first | with_reducible rfl | with_reducible assumption | omega | (refine aq ?_ ?_ <;> omega)) | exact (dY (key:=Snap.id)) | exact (cD (key:=Snap.id) (by with_reducible assumption) (by with_reducible assumption) (by with_reducible assumption)) | exact (dv (key:=Snap.id) (by with_reducible assumption) (by omega)) | exact (db (key:=Snap.id) (by with_reducible assumption) (by with_reducible assumption) (by with_reducible assumption)))
 all_goals try (refine ⟨0,?_⟩; (repeat' (first | with_reducible refine And.intro ?_ ?_ | with_reducible refine and_imp.2 ?_ | intro)))
 all_goals try (first | (first | with_reducible rfl | with_reducible assumption | omega | (refine aq ?_ ?_ <;> omega)) | exact (dY (key:=Snap.id)) | exact (cD (key:=Snap.id) (by with_reducible assumption) (by with_reducible assumption) (by with_reducible assumption)) | exact (dv (key:=Snap.id) (by with_reducible assumption) (by omega)) | exact (db (key:=Snap.id) (by with_reducible assumption) (by with_reducible assumption) (by with_reducible assumption)))
 all_goals try (refine ⟨‹Nat› + 1,?_⟩; (repeat' (first | with_reducible refine And.intro ?_ ?_ | with_reducible refine and_imp.2 ?_ | intro)))
 all_goals (first | (first | with_reducible rfl | with_reducible assumption | omega | (refine aq ?_ ?_ <;> omega)) | exact (dY (key:=Snap.id)) | exact (cD (key:=Snap.id) (by with_reducible assumption) (by with_reducible assumption) (by with_reducible assumption)) | exact (dv (key:=Snap.id) (by with_reducible assumption) (by omega)) | exact (db (key:=Snap.id) (by with_reducible assumption) (by with_reducible assumption) (by with_reducible assumption)))
def sJ:cC:=(bR 89 (bJ (ah (kC (cL (.nm .snap))) (ah (kC cI) (ah (kC (lH 90 [] [])) aO))) aP fun (l,want,_,_) (_)=>⟨[],[.c (.int ((ai Snap.id want l)))],none,false⟩) (bR 123 (bJ (ah (kC (cL (.nm .opn))) (ah (kC cI) (ah (kC (lH 115 [] [])) aO))) aP fun (l,want,_,_) (_)=>⟨[],[.c (.int ((ai Opn.set want l)))],none,false⟩) (bR 85 (bJ (ah (kC (cL (.nm .sess))) (ah (kC cI) (ah (kC (lH 86 [] [])) aO))) aP fun (l,want,_,_) (_)=>⟨[],[.c (.int ((ai Sess.client want l)))],none,false⟩) Ba)))
theorem fM:aX Tryz.prog (au aF) sJ:=(az (ay (ab (av bO) (ab (av aw) (ab (av b_) al))) ao fun (l,want,_,_) (_) _=>qC l want ) (az (ay (ab (av bO) (ab (av aw) (ab (av b_) al))) ao fun (l,want,_,_) (_) _=>rF l want ) (az (ay (ab (av bO) (ab (av aw) (ab (av b_) al))) ao fun (l,want,_,_) (_) _=>qB l want ) lz)))
end Go.Proofs.YtdggohppeeaipaaGreat
namespace Go.Proofs.YtdggohppeeaipaaGreat
open Go.RowKit
theorem CS {n r m:Nat} (h:aZ n+1=aZ r+m) (hr:128<=r):aZ n+1=aZ (r / 128)+(m+1):=by
 have:=mF (n:=r) (by omega); omega
theorem CF {n r m:Nat} (h:aZ n+1=aZ r+m) (hn:n<18446744073709551616):m<=10:=by
 have:=mU hn; have:=gH r; omega
theorem zq {n r m:Nat} (h:aZ n+1=aZ r+m) (hr:r<128):m=aZ n:=by
 have:=ij hr; omega
section
variable {α:Type} {key:α->Int} {most:Int} {l:List α} {k:Nat} {x:α}
theorem iJ (h:aj key most 0 (l.take k)=true) (hx:l[k]? = some x) (hb:aQ (key x) (aY key 0 (l.take k)+1) most=true):aj key most 0 (l.take (k+1))=true:=
 gk h hx (by have:=lf hb; omega) (lf hb).2
theorem iG (hx:l[k]? = some x) (hb:aQ (key x) (aY key 0 (l.take k)+1) most=false):false=aj key most 0 l:=
 (kH hx (by have:=JW hb; omega)).symm
theorem js (h:aj key most 0 (l.take k)=true) (hk:l.length<=k):true=aj key most 0 l:=(fT h hk).symm
theorem ji (hx:l[k]? = some x) (h0:0<=aY key 0 (l.take k)) (hb:aQ (key x) (aY key 0 (l.take k)+1) most=true):0<=aY key 0 (l.take (k+1)):=by
 have:=lf hb; rw [<- bL hx]; omega
theorem jm (hx:l[k]? = some x) (hb:aQ (key x) (aY key 0 (l.take k)+1) most=true) (hm:most<=1048576):aY key 0 (l.take (k+1))<=1048576:=by
 have:=lf hb; rw [<- bL hx]; omega
variable {p:α->Bool}
theorem jg (hx:l[k]? = some x) (hp:p x=false):false=l.all p:=(xU hx hp).symm
theorem jd (h:(l.take k).all p=true) (hk:l.length<=k):true=l.all p:=(xQ h hk).symm
end
def EH (n:U64):List (Nat × LI):=[(2,{ σ:=Nat × Nat,F:=fun s=>([(0,one (.u64 s.1)),(3,one (.int s.2))],[]),J:=fun s=>s.1<18446744073709551616/\aZ n.n+1=aZ s.1+s.2,μ:=fun s=>s.1 })]
def kO (l:List Sess) (most:Int):List (Nat × LI):=[(3,{ σ:=Nat,F:=fun k=>([(1,one (.int (most))),(2,one (.fn 86 [] [])),(7,one (.int (aY Sess.client 0 (l.take k)))),(10,one (.fz (.nm .sess) (l))),(11,one (.int (l).length)),(12,one (.int k))],[]),J:=fun k=>k<=l.length/\aj Sess.client most 0 (l.take k)=true/\0<=aY Sess.client 0 (l.take k)/\aY Sess.client 0 (l.take k)<=1048576,μ:=fun k=>(l).length - k })]
def k_ (l:List Opn) (most:Int):List (Nat × LI):=[(3,{ σ:=Nat,F:=fun k=>([(1,one (.int (most))),(2,one (.fn 115 [] [])),(7,one (.int (aY Opn.set 0 (l.take k)))),(10,one (.fz (.nm .opn) (l))),(11,one (.int (l).length)),(12,one (.int k))],[]),J:=fun k=>k<=l.length/\aj Opn.set most 0 (l.take k)=true/\0<=aY Opn.set 0 (l.take k)/\aY Opn.set 0 (l.take k)<=1048576,μ:=fun k=>(l).length - k })]
def kQ (l:List Snap) (most:Int):List (Nat × LI):=[(3,{ σ:=Nat,F:=fun k=>([(1,one (.int (most))),(2,one (.fn 90 [] [])),(7,one (.int (aY Snap.id 0 (l.take k)))),(10,one (.fz (.nm .snap) (l))),(11,one (.int (l).length)),(12,one (.int k))],[]),J:=fun k=>k<=l.length/\aj Snap.id most 0 (l.take k)=true/\0<=aY Snap.id 0 (l.take k)/\aY Snap.id 0 (l.take k)<=1048576,μ:=fun k=>(l).length - k })]
theorem Gr (n:U64) (r0:Int):cM aF sJ (EH n) Tryz.f146 [.c (.u64 (n).n)] [] [.c (.int (r0))]=((fun (q0:Nat)=>n.n<(18446744073709551616:Nat)->∃ (s0:Nat × Nat),(n.n=s0.fst/\(1:Int)=(↑s0.snd:Int))/\(s0.fst<(18446744073709551616:Nat)/\q0=aZ s0.fst+s0.snd)/\∀ (s:Nat × Nat),s.fst<(18446744073709551616:Nat)/\q0=aZ s.fst+s.snd->((↑(128:Nat):Int)<=(↑s.fst:Int)->(7:Nat)<(64:Nat)/\I64 ((↑s.snd:Int)+(1:Int))/\∃ (s':Nat × Nat),(s.fst / (2:Nat) ^ (7:Nat)=s'.fst/\(↑s.snd:Int)+(1:Int)=(↑s'.snd:Int))/\(s'.fst<(18446744073709551616:Nat)/\q0=aZ s'.fst+s'.snd)/\s'.fst<s.fst)/\((↑s.fst:Int)<(↑(128:Nat):Int)->(↑s.snd:Int)=r0)) (aZ n.n+(1:Nat))):=by kernel_rfl
theorem Fx (n:U64):Sat Tryz.prog (au aF) 146 [.c (.u64 (n).n)] [] ⟨[],[.c (.int (((aZ n.n:Int))))],none,false⟩:=by
 refine aR fM (EH n) Tryz.func146 (by decide) (by kernel_rfl) ?_
 rw [Gr]
 intro hn
 refine ⟨(n.n,1),⟨rfl,rfl⟩,⟨hn,rfl⟩,fun s hs=>⟨fun h=>?_,fun h=>?_⟩⟩
 ·have h2:=CS hs.2 (by omega)
  have h3:=CF hs.2 hn
  exact ⟨by omega,by constructor <;> omega,(s.1 / 128,s.2+1),⟨rfl,by simp⟩,⟨by show s.1 / 128<_; omega,h2⟩,by show s.1 / 128<s.1; omega⟩
 ·exact congrArg Int.ofNat (zq hs.2 (by omega))
theorem oI (l:List Sess) (most:Int) (r0:Bool):cM aF sJ (kO l most) Tryz.f111 [.c (.fz (.nm .sess) (l)),.c (.int (most)),.c (.fn 86 [] [])] [] [.c (.bool (.atom (r0)))]=((fun (q1:Nat)=>(fun (q0:Int)=>l.length*(32:Nat)<=(140737488355328:Nat)->I64 most->∃ (s0:Nat),(fun (q2:Int)=>(most=most/\q0=q2/\l=l/\(↑l.length:Int)=(↑q1:Int)/\q0=(↑s0:Int))/\(s0<=q1/\aj Sess.client most q0 (List.take s0 l)=true/\q0<=q2/\q2<=(1048576:Int))/\∀ (s:Nat),(fun (q3:Int)=>s<=q1/\aj Sess.client most q0 (List.take s l)=true/\q0<=q3/\q3<=(1048576:Int)->((↑s:Int)<(↑q1:Int)->q0<=(↑s:Int)/\(↑s:Int)<(↑l.length:Int)/\∀ (x:Sess),(fun (q4:Bool)=>l[s]? = some x->I64 x.client->I64 x.seq->I64 x.last.code->I64 x.last.n->I64 x.client->I64 (q3+(1:Int))/\(q4=false->false=r0)/\(q4=true->I64 x.client->I64 ((↑s:Int)+(1:Int))/\∃ (s':Nat),(fun (q5:Int)=>(most=most/\x.client=q5/\l=l/\(↑q1:Int)=(↑q1:Int)/\(↑s:Int)+(1:Int)=(↑s':Int))/\(s' <= q1/\aj Sess.client most q0 (List.take s' l)=true/\q0<=q5/\q5<=(1048576:Int))/\q1 - s' < q1 - s) (aY Sess.client q0 (List.take s' l)))) (aQ x.client (q3+(1:Int)) most))/\((↑q1:Int)<=(↑s:Int)->true=r0)) (aY Sess.client q0 (List.take s l))) (aY Sess.client q0 (List.take s0 l))) (0:Int)) l.length):=by kernel_rfl
theorem qo (l:List Sess) (most:Int) (h0:most<=1048576):Sat Tryz.prog (au aF) 111 [.c (.fz (.nm .sess) (l)),.c (.int (most)),.c (.fn 86 [] [])] [] ⟨[most<=1048576],[.c (.bool (.atom ((aj Sess.client most 0 l))))],none,false⟩:=by
 refine aR fM (kO l most) Tryz.func111 (by decide) (by kernel_rfl) ?_
 rw [oI]
 (repeat' (first | with_reducible refine And.intro ?_ ?_ | with_reducible refine and_imp.2 ?_ | intro))
 all_goals try (first | (first | with_reducible rfl | with_reducible assumption | omega | (refine aq ?_ ?_ <;> omega)) | exact (iJ (key:=Sess.client) (by with_reducible assumption) (by with_reducible assumption) (by with_reducible assumption)) | exact (iG (key:=Sess.client) (by with_reducible assumption) (by with_reducible assumption)) | exact (js (key:=Sess.client) (by with_reducible assumption) (by omega)) | exact (bL (key:=Sess.client) (by with_reducible assumption)) | exact (ji (key:=Sess.client) (by with_reducible assumption) (by with_reducible assumption) (by with_reducible assumption)) | exact (jm (key:=Sess.client) (by with_reducible assumption) (by with_reducible assumption) (by with_reducible assumption)) | exact rfl | exact Int.le_refl _ | exact (show (0:Int)<=1048576 by omega))
 all_goals try (refine ⟨0,?_⟩; (repeat' (first | with_reducible refine And.intro ?_ ?_ | with_reducible refine and_imp.2 ?_ | intro)))
 all_goals try (first | (first | with_reducible rfl | with_reducible assumption | omega | (refine aq ?_ ?_ <;> omega)) | exact (iJ (key:=Sess.client) (by with_reducible assumption) (by with_reducible assumption) (by with_reducible assumption)) | exact (iG (key:=Sess.client) (by with_reducible assumption) (by with_reducible assumption)) | exact (js (key:=Sess.client) (by with_reducible assumption) (by omega)) | exact (bL (key:=Sess.client) (by with_reducible assumption)) | exact (ji (key:=Sess.client) (by with_reducible assumption) (by with_reducible assumption) (by with_reducible assumption)) | exact (jm (key:=Sess.client) (by with_reducible assumption) (by with_reducible assumption) (by with_reducible assumption)) | exact rfl | exact Int.le_refl _ | exact (show (0:Int)<=1048576 by omega))
 all_goals try (refine ⟨‹Nat› + 1,?_⟩; (repeat' (first | with_reducible refine And.intro ?_ ?_ | with_reducible refine and_imp.2 ?_ | intro)))
 all_goals (first | (first | with_reducible rfl | with_reducible assumption | omega | (refine aq ?_ ?_ <;> omega)) | exact (iJ (key:=Sess.client) (by with_reducible assumption) (by with_reducible assumption) (by with_reducible assumption)) | exact (iG (key:=Sess.client) (by with_reducible assumption) (by with_reducible assumption)) | exact (js (key:=Sess.client) (by with_reducible assumption) (by omega)) | exact (bL (key:=Sess.client) (by with_reducible assumption)) | exact (ji (key:=Sess.client) (by with_reducible assumption) (by with_reducible assumption) (by with_reducible assumption)) | exact (jm (key:=Sess.client) (by with_reducible assumption) (by with_reducible assumption) (by with_reducible assumption)) | exact rfl | exact Int.le_refl _ | exact (show (0:Int)<=1048576 by omega))
theorem qb (l:List Opn) (most:Int) (r0:Bool):cM aF sJ (k_ l most) Tryz.f114 [.c (.fz (.nm .opn) (l)),.c (.int (most)),.c (.fn 115 [] [])] [] [.c (.bool (.atom (r0)))]=((fun (q1:Nat)=>(fun (q0:Int)=>l.length*(16:Nat)<=(140737488355328:Nat)->I64 most->∃ (s0:Nat),(fun (q2:Int)=>(most=most/\q0=q2/\l=l/\(↑l.length:Int)=(↑q1:Int)/\q0=(↑s0:Int))/\(s0<=q1/\aj Opn.set most q0 (List.take s0 l)=true/\q0<=q2/\q2<=(1048576:Int))/\∀ (s:Nat),(fun (q3:Int)=>s<=q1/\aj Opn.set most q0 (List.take s l)=true/\q0<=q3/\q3<=(1048576:Int)->((↑s:Int)<(↑q1:Int)->q0<=(↑s:Int)/\(↑s:Int)<(↑l.length:Int)/\∀ (x:Opn),(fun (q4:Bool)=>l[s]? = some x->I64 x.set->I64 x.client->I64 x.set->I64 (q3+(1:Int))/\(q4=false->false=r0)/\(q4=true->I64 x.set->I64 ((↑s:Int)+(1:Int))/\∃ (s':Nat),(fun (q5:Int)=>(most=most/\x.set=q5/\l=l/\(↑q1:Int)=(↑q1:Int)/\(↑s:Int)+(1:Int)=(↑s':Int))/\(s' <= q1/\aj Opn.set most q0 (List.take s' l)=true/\q0<=q5/\q5<=(1048576:Int))/\q1 - s' < q1 - s) (aY Opn.set q0 (List.take s' l)))) (aQ x.set (q3+(1:Int)) most))/\((↑q1:Int)<=(↑s:Int)->true=r0)) (aY Opn.set q0 (List.take s l))) (aY Opn.set q0 (List.take s0 l))) (0:Int)) l.length):=by kernel_rfl
theorem oV (l:List Opn) (most:Int) (h0:most<=1048576):Sat Tryz.prog (au aF) 114 [.c (.fz (.nm .opn) (l)),.c (.int (most)),.c (.fn 115 [] [])] [] ⟨[most<=1048576],[.c (.bool (.atom ((aj Opn.set most 0 l))))],none,false⟩:=by
 refine aR fM (k_ l most) Tryz.func114 (by decide) (by kernel_rfl) ?_
 rw [qb]
 (repeat' (first | with_reducible refine And.intro ?_ ?_ | with_reducible refine and_imp.2 ?_ | intro))
 all_goals try (first | (first | with_reducible rfl | with_reducible assumption | omega | (refine aq ?_ ?_ <;> omega)) | exact (iJ (key:=Opn.set) (by with_reducible assumption) (by with_reducible assumption) (by with_reducible assumption)) | exact (iG (key:=Opn.set) (by with_reducible assumption) (by with_reducible assumption)) | exact (js (key:=Opn.set) (by with_reducible assumption) (by omega)) | exact (bL (key:=Opn.set) (by with_reducible assumption)) | exact (ji (key:=Opn.set) (by with_reducible assumption) (by with_reducible assumption) (by with_reducible assumption)) | exact (jm (key:=Opn.set) (by with_reducible assumption) (by with_reducible assumption) (by with_reducible assumption)) | exact rfl | exact Int.le_refl _ | exact (show (0:Int)<=1048576 by omega))
 all_goals try (refine ⟨0,?_⟩; (repeat' (first | with_reducible refine And.intro ?_ ?_ | with_reducible refine and_imp.2 ?_ | intro)))
 all_goals try (first | (first | with_reducible rfl | with_reducible assumption | omega | (refine aq ?_ ?_ <;> omega)) | exact (iJ (key:=Opn.set) (by with_reducible assumption) (by with_reducible assumption) (by with_reducible assumption)) | exact (iG (key:=Opn.set) (by with_reducible assumption) (by with_reducible assumption)) | exact (js (key:=Opn.set) (by with_reducible assumption) (by omega)) | exact (bL (key:=Opn.set) (by with_reducible assumption)) | exact (ji (key:=Opn.set) (by with_reducible assumption) (by with_reducible assumption) (by with_reducible assumption)) | exact (jm (key:=Opn.set) (by with_reducible assumption) (by with_reducible assumption) (by with_reducible assumption)) | exact rfl | exact Int.le_refl _ | exact (show (0:Int)<=1048576 by omega))
 all_goals try (refine ⟨‹Nat› + 1,?_⟩; (repeat' (first | with_reducible refine And.intro ?_ ?_ | with_reducible refine and_imp.2 ?_ | intro)))
 all_goals (first | (first | with_reducible rfl | with_reducible assumption | omega | (refine aq ?_ ?_ <;> omega)) | exact (iJ (key:=Opn.set) (by with_reducible assumption) (by with_reducible assumption) (by with_reducible assumption)) | exact (iG (key:=Opn.set) (by with_reducible assumption) (by with_reducible assumption)) | exact (js (key:=Opn.set) (by with_reducible assumption) (by omega)) | exact (bL (key:=Opn.set) (by with_reducible assumption)) | exact (ji (key:=Opn.set) (by with_reducible assumption) (by with_reducible assumption) (by with_reducible assumption)) | exact (jm (key:=Opn.set) (by with_reducible assumption) (by with_reducible assumption) (by with_reducible assumption)) | exact rfl | exact Int.le_refl _ | exact (show (0:Int)<=1048576 by omega))
theorem pF (l:List Snap) (most:Int) (r0:Bool):cM aF sJ (kQ l most) Tryz.f132 [.c (.fz (.nm .snap) (l)),.c (.int (most)),.c (.fn 90 [] [])] [] [.c (.bool (.atom (r0)))]=((fun (q1:Nat)=>(fun (q0:Int)=>l.length*(64:Nat)<=(140737488355328:Nat)->I64 most->∃ (s0:Nat),(fun (q2:Int)=>(most=most/\q0=q2/\l=l/\(↑l.length:Int)=(↑q1:Int)/\q0=(↑s0:Int))/\(s0<=q1/\aj Snap.id most q0 (List.take s0 l)=true/\q0<=q2/\q2<=(1048576:Int))/\∀ (s:Nat),(fun (q3:Int)=>s<=q1/\aj Snap.id most q0 (List.take s l)=true/\q0<=q3/\q3<=(1048576:Int)->((↑s:Int)<(↑q1:Int)->q0<=(↑s:Int)/\(↑s:Int)<(↑l.length:Int)/\∀ (x:Snap),(fun (q4:Int)=>l[s]? = some x->I64 x.id->I64 x.set->x.chunks.length*(8:Nat)<=(140737488355328:Nat)->x.tag.b.length<=(140737488355328:Nat)->I64 x.id->I64 q4/\(aQ x.id q4 most=false->false=r0)/\(aQ x.id q4 most=true->I64 x.id->I64 ((↑s:Int)+(1:Int))/\∃ (s':Nat),(fun (q5:Int)=>(most=most/\x.id=q5/\l=l/\(↑q1:Int)=(↑q1:Int)/\(↑s:Int)+(1:Int)=(↑s':Int))/\(s' <= q1/\aj Snap.id most q0 (List.take s' l)=true/\q0<=q5/\q5<=(1048576:Int))/\q1 - s' < q1 - s) (aY Snap.id q0 (List.take s' l)))) (q3+(1:Int)))/\((↑q1:Int)<=(↑s:Int)->true=r0)) (aY Snap.id q0 (List.take s l))) (aY Snap.id q0 (List.take s0 l))) (0:Int)) l.length):=by kernel_rfl
theorem oO (l:List Snap) (most:Int) (h0:most<=1048576):Sat Tryz.prog (au aF) 132 [.c (.fz (.nm .snap) (l)),.c (.int (most)),.c (.fn 90 [] [])] [] ⟨[most<=1048576],[.c (.bool (.atom ((aj Snap.id most 0 l))))],none,false⟩:=by
 refine aR fM (kQ l most) Tryz.func132 (by decide) (by kernel_rfl) ?_
 rw [pF]
 (repeat' (first | with_reducible refine And.intro ?_ ?_ | with_reducible refine and_imp.2 ?_ | intro))
 all_goals try (first | (first | with_reducible rfl | with_reducible assumption | omega | (refine aq ?_ ?_ <;> omega)) | exact (iJ (key:=Snap.id) (by with_reducible assumption) (by with_reducible assumption) (by with_reducible assumption)) | exact (iG (key:=Snap.id) (by with_reducible assumption) (by with_reducible assumption)) | exact (js (key:=Snap.id) (by with_reducible assumption) (by omega)) | exact (bL (key:=Snap.id) (by with_reducible assumption)) | exact (ji (key:=Snap.id) (by with_reducible assumption) (by with_reducible assumption) (by with_reducible assumption)) | exact (jm (key:=Snap.id) (by with_reducible assumption) (by with_reducible assumption) (by with_reducible assumption)) | exact rfl | exact Int.le_refl _ | exact (show (0:Int)<=1048576 by omega))
 all_goals try (refine ⟨0,?_⟩; (repeat' (first | with_reducible refine And.intro ?_ ?_ | with_reducible refine and_imp.2 ?_ | intro)))
 all_goals try (first | (first | with_reducible rfl | with_reducible assumption | omega | (refine aq ?_ ?_ <;> omega)) | exact (iJ (key:=Snap.id) (by with_reducible assumption) (by with_reducible assumption) (by with_reducible assumption)) | exact (iG (key:=Snap.id) (by with_reducible assumption) (by with_reducible assumption)) | exact (js (key:=Snap.id) (by with_reducible assumption) (by omega)) | exact (bL (key:=Snap.id) (by with_reducible assumption)) | exact (ji (key:=Snap.id) (by with_reducible assumption) (by with_reducible assumption) (by with_reducible assumption)) | exact (jm (key:=Snap.id) (by with_reducible assumption) (by with_reducible assumption) (by with_reducible assumption)) | exact rfl | exact Int.le_refl _ | exact (show (0:Int)<=1048576 by omega))
 all_goals try (refine ⟨‹Nat› + 1,?_⟩; (repeat' (first | with_reducible refine And.intro ?_ ?_ | with_reducible refine and_imp.2 ?_ | intro)))
 all_goals (first | (first | with_reducible rfl | with_reducible assumption | omega | (refine aq ?_ ?_ <;> omega)) | exact (iJ (key:=Snap.id) (by with_reducible assumption) (by with_reducible assumption) (by with_reducible assumption)) | exact (iG (key:=Snap.id) (by with_reducible assumption) (by with_reducible assumption)) | exact (js (key:=Snap.id) (by with_reducible assumption) (by omega)) | exact (bL (key:=Snap.id) (by with_reducible assumption)) | exact (ji (key:=Snap.id) (by with_reducible assumption) (by with_reducible assumption) (by with_reducible assumption)) | exact (jm (key:=Snap.id) (by with_reducible assumption) (by with_reducible assumption) (by with_reducible assumption)) | exact rfl | exact Int.le_refl _ | exact (show (0:Int)<=1048576 by omega))
theorem F_ (x:Sess) (r0:Bool):cM aF sJ [] Tryz.f113 [.agg (cellsOf (.nm .sess) x)] [] [.c (.bool (.atom (r0)))]=(I64 x.client->I64 x.seq->I64 x.last.code->I64 x.last.n->(aQ x.seq (0:Int) (1048576:Int) && aQ x.last.code (0:Int) (99:Int) && aQ x.last.n (0:Int) (1048576:Int))=r0):=by kernel_rfl
theorem FQ (x:Sess):Sat Tryz.prog (au aF) 113 [.agg (cellsOf (.nm .sess) x)] [] ⟨[],[.c (.bool (.atom ((aM x))))],none,false⟩:=by
 refine aR fM [] Tryz.func113 (by decide) (by kernel_rfl) ?_
 rw [F_]
 grind [aM,aQ]
theorem He (x:Opn) (r0:Bool):cM aF sJ [] Tryz.f117 [.agg (cellsOf (.nm .opn) x)] [] [.c (.bool (.atom (r0)))]=(I64 x.set->I64 x.client->aQ x.client (1:Int) (8:Int)=r0):=by kernel_rfl
theorem FF (x:Opn):Sat Tryz.prog (au aF) 117 [.agg (cellsOf (.nm .opn) x)] [] ⟨[],[.c (.bool (.atom ((aN x))))],none,false⟩:=by
 refine aR fM [] Tryz.func117 (by decide) (by kernel_rfl) ?_
 rw [He]
 grind [aN,aQ]
def pV:cC:=(bR 117 (bJ (ah (kT (.nm .opn)) aO) aP fun (x,_) (_)=>⟨[],[.c (.bool (.atom ((aN x))))],none,false⟩) (bR 113 (bJ (ah (kT (.nm .sess)) aO) aP fun (x,_) (_)=>⟨[],[.c (.bool (.atom ((aM x))))],none,false⟩) (bR 132 (bJ (ah (kC (cL (.nm .snap))) (ah (kC cI) (ah (kC (lH 90 [] [])) aO))) aP fun (l,most,_,_) (_)=>⟨[most<=1048576],[.c (.bool (.atom ((aj Snap.id most 0 l))))],none,false⟩) (bR 114 (bJ (ah (kC (cL (.nm .opn))) (ah (kC cI) (ah (kC (lH 115 [] [])) aO))) aP fun (l,most,_,_) (_)=>⟨[most<=1048576],[.c (.bool (.atom ((aj Opn.set most 0 l))))],none,false⟩) (bR 111 (bJ (ah (kC (cL (.nm .sess))) (ah (kC cI) (ah (kC (lH 86 [] [])) aO))) aP fun (l,most,_,_) (_)=>⟨[most<=1048576],[.c (.bool (.atom ((aj Sess.client most 0 l))))],none,false⟩) (bR 146 (bJ (ah (kC cU) aO) aP fun (n,_) (_)=>⟨[],[.c (.int (((aZ n.n:Int))))],none,false⟩) sJ))))))
theorem eH:aX Tryz.prog (au aF) pV:=(az (ay (ab bK al) ao fun (x,_) (_) _=>FF x ) (az (ay (ab bK al) ao fun (x,_) (_) _=>FQ x ) (az (ay (ab (av bO) (ab (av aw) (ab (av b_) al))) ao fun (l,most,_,_) (_) hp=>oO l most (eP hp)) (az (ay (ab (av bO) (ab (av aw) (ab (av b_) al))) ao fun (l,most,_,_) (_) hp=>oV l most (eP hp)) (az (ay (ab (av bO) (ab (av aw) (ab (av b_) al))) ao fun (l,most,_,_) (_) hp=>qo l most (eP hp)) (az (ay (ab (av Ej) al) ao fun (n,_) (_) _=>Fx n ) fM))))))
end Go.Proofs.YtdggohppeeaipaaGreat
namespace Go.Proofs.YtdggohppeeaipaaGreat
open Go.RowKit
theorem tD {n k:Nat} (h:(k:Int)<aZ n):(dw n k).set k (UInt8.ofNat (n / 128 ^ k) ||| UInt8.ofNat 128)=dw n (k+1):=ue (by omega)
theorem pU {n k:Nat} (h1:k<=aZ n) (h2:(aZ n:Int)<=(k:Int)):(dw n k).set ((aZ n:Int) - 1).toNat ((dw n k).getD ((aZ n:Int) - 1).toNat (dflt Sh.u8) &&& UInt8.ofNat 127)=nz n:=by
 have e:k=aZ n:=by omega
 have e2:((aZ n:Int) - 1).toNat=aZ n - 1:=by omega
 have hl:=fb (n:=n) (Nat.le_refl _)
 have hp:=gH n
 subst e
 have hlt:aZ n - 1<(dw n (aZ n)).length:=by omega
 rw [e2,List.getD_eq_getElem?_getD,List.getElem?_eq_getElem hlt,Option.getD_some,tx (List.getElem?_eq_getElem hlt)]
 rfl
def Iy (n:U64):List (Nat × LI):=[(4,{ σ:=Nat,F:=fun k=>([(0,one (.u64 (n.n / 128 ^ k))),(3,one (.int (aZ n.n))),(4,one (.own 0)),(10,one (.int (aZ n.n))),(11,one (.int k))],[.row 5 .u8 ((dw n.n k))]),J:=fun k=>k<=aZ n.n,μ:=fun k=>aZ n.n - k })]
def rM (l:List Sess):List (Nat × LI):=[(2,{ σ:=Nat,F:=fun k=>([(1,one (.fn 113 [] [])),(7,one (.fz (.nm .sess) (l))),(8,one (.int (l).length)),(9,one (.int k))],[]),J:=fun k=>k<=l.length/\(l.take k).all (aM)=true,μ:=fun k=>(l).length - k })]
def rW (l:List Opn):List (Nat × LI):=[(2,{ σ:=Nat,F:=fun k=>([(1,one (.fn 117 [] [])),(7,one (.fz (.nm .opn) (l))),(8,one (.int (l).length)),(9,one (.int k))],[]),J:=fun k=>k<=l.length/\(l.take k).all (aN)=true,μ:=fun k=>(l).length - k })]
theorem H_ (n:U64) (r0:List UInt8):tu aF pV (Iy n) Tryz.f143 [.c (.u64 (n).n)] [] [.c (.own 0)] [.row 5 .u8 (r0)]=((fun (q2:Nat)=>(fun (q1:Int)=>(fun (q0:Int)=>n.n<(18446744073709551616:Nat)->I64 q0->(0:Int)<=q0/\q0*(↑(1:Nat):Int)<=(140737488355328:Int)/\q0=q0/\∃ (s0:Nat),(fun (q3:Int)=>(n.n=n.n / (128:Nat) ^ s0/\q0=q0/\q0=q0/\(0:Int)=(↑s0:Int)/\List.replicate q2 (dflt Sh.u8)=dw n.n s0)/\s0<=q2/\∀ (s:Nat),(fun (q4:List UInt8)=>s<=q2->((↑s:Int)<q0->(0:Int)<=(↑s:Int)/\(↑s:Int)<(↑q4.length:Int)/\(7:Nat)<(64:Nat)/\I64 ((↑s:Int)+q1)/\∃ (s':Nat),(n.n / (128:Nat) ^ s / (2:Nat) ^ (7:Nat)=n.n / (128:Nat) ^ s' /\ q0=q0/\q0=q0/\(↑s:Int)+q1=(↑s':Int)/\q4.set s (UInt8.ofNat (n.n / (128:Nat) ^ s) ||| UInt8.ofNat (128:Nat))=dw n.n s')/\s' <= q2/\q2 - s' < q2 - s)/\(q0<=(↑s:Int)->I64 q3/\(0:Int)<=q3/\q3<(↑q4.length:Int)/\(0:Int)<=q3/\q3<(↑q4.length:Int)/\q4.set q3.toNat (q4.getD q3.toNat (dflt Sh.u8) &&& UInt8.ofNat (127:Nat))=r0)) (dw n.n s)) (q0 - q1)) (↑q2:Int)) (1:Int)) (aZ n.n)):=by kernel_rfl
theorem HD (n:U64):Sat Tryz.prog (au aF) 143 [.c (.u64 (n).n)] [] ⟨[],[.c (.own 0)],some ([.row 5 .u8 ((nz n.n))]),true⟩:=by
 refine eA eH (Iy n) Tryz.func143 (by decide) (by kernel_rfl) ?_
 rw [H_]
 intro hn
 have h1:=gH n.n
 have h10:=mU hn
 (repeat' (first | with_reducible refine And.intro ?_ ?_ | with_reducible refine and_imp.2 ?_ | intro))
 all_goals try (first | (first | with_reducible rfl | with_reducible assumption | omega | (refine aq ?_ ?_ <;> omega)) | exact (gY n.n) | exact (tD (by omega)) | exact (pU (by omega) (by omega)) | exact div_pow | exact (by rw [Nat.pow_zero,Nat.div_one]) | exact (by rw [fb (by omega)]; omega))
 all_goals try (refine ⟨0,?_⟩; (repeat' (first | with_reducible refine And.intro ?_ ?_ | with_reducible refine and_imp.2 ?_ | intro)))
 all_goals try (first | (first | with_reducible rfl | with_reducible assumption | omega | (refine aq ?_ ?_ <;> omega)) | exact (gY n.n) | exact (tD (by omega)) | exact (pU (by omega) (by omega)) | exact div_pow | exact (by rw [Nat.pow_zero,Nat.div_one]) | exact (by rw [fb (by omega)]; omega))
 all_goals try (refine ⟨‹Nat› + 1,?_⟩; (repeat' (first | with_reducible refine And.intro ?_ ?_ | with_reducible refine and_imp.2 ?_ | intro)))
 all_goals (first | (first | with_reducible rfl | with_reducible assumption | omega | (refine aq ?_ ?_ <;> omega)) | exact (gY n.n) | exact (tD (by omega)) | exact (pU (by omega) (by omega)) | exact div_pow | exact (by rw [Nat.pow_zero,Nat.div_one]) | exact (by rw [fb (by omega)]; omega))
theorem wQ (l:List Sess) (r0:Bool):cM aF pV (rM l) Tryz.f112 [.c (.fz (.nm .sess) (l)),.c (.fn 113 [] [])] [] [.c (.bool (.atom (r0)))]=((fun (q0:Nat)=>l.length*(32:Nat)<=(140737488355328:Nat)->∃ (s0:Nat),(l=l/\(↑l.length:Int)=(↑q0:Int)/\(0:Int)=(↑s0:Int))/\(s0<=q0/\(List.take s0 l).all aM=true)/\∀ (s:Nat),s<=q0/\(List.take s l).all aM=true->((↑s:Int)<(↑q0:Int)->(0:Int)<=(↑s:Int)/\(↑s:Int)<(↑l.length:Int)/\∀ (x:Sess),l[s]? = some x->I64 x.client->I64 x.seq->I64 x.last.code->I64 x.last.n->(aM x=false->false=r0)/\(aM x=true->I64 ((↑s:Int)+(1:Int))/\∃ (s':Nat),(l=l/\(↑q0:Int)=(↑q0:Int)/\(↑s:Int)+(1:Int)=(↑s':Int))/\(s' <= q0/\(List.take s' l).all aM=true)/\q0 - s' < q0 - s))/\((↑q0:Int)<=(↑s:Int)->true=r0)) l.length):=by kernel_rfl
theorem wi (l:List Sess):Sat Tryz.prog (au aF) 112 [.c (.fz (.nm .sess) (l)),.c (.fn 113 [] [])] [] ⟨[],[.c (.bool (.atom ((l.all (aM)))))],none,false⟩:=by
 refine aR eH (rM l) Tryz.func112 (by decide) (by kernel_rfl) ?_
 rw [wQ]
 (repeat' (first | with_reducible refine And.intro ?_ ?_ | with_reducible refine and_imp.2 ?_ | intro))
 all_goals try (first | (first | with_reducible rfl | with_reducible assumption | omega | (refine aq ?_ ?_ <;> omega)) | exact (dt (p:=aM) (by with_reducible assumption) (by with_reducible assumption) (by with_reducible assumption)) | exact (jg (p:=aM) (by with_reducible assumption) (by with_reducible assumption)) | exact (jd (p:=aM) (by with_reducible assumption) (by omega)) | exact rfl)
 all_goals try (refine ⟨0,?_⟩; (repeat' (first | with_reducible refine And.intro ?_ ?_ | with_reducible refine and_imp.2 ?_ | intro)))
 all_goals try (first | (first | with_reducible rfl | with_reducible assumption | omega | (refine aq ?_ ?_ <;> omega)) | exact (dt (p:=aM) (by with_reducible assumption) (by with_reducible assumption) (by with_reducible assumption)) | exact (jg (p:=aM) (by with_reducible assumption) (by with_reducible assumption)) | exact (jd (p:=aM) (by with_reducible assumption) (by omega)) | exact rfl)
 all_goals try (refine ⟨‹Nat› + 1,?_⟩; (repeat' (first | with_reducible refine And.intro ?_ ?_ | with_reducible refine and_imp.2 ?_ | intro)))
 all_goals (first | (first | with_reducible rfl | with_reducible assumption | omega | (refine aq ?_ ?_ <;> omega)) | exact (dt (p:=aM) (by with_reducible assumption) (by with_reducible assumption) (by with_reducible assumption)) | exact (jg (p:=aM) (by with_reducible assumption) (by with_reducible assumption)) | exact (jd (p:=aM) (by with_reducible assumption) (by omega)) | exact rfl)
theorem wb (l:List Opn) (r0:Bool):cM aF pV (rW l) Tryz.f116 [.c (.fz (.nm .opn) (l)),.c (.fn 117 [] [])] [] [.c (.bool (.atom (r0)))]=((fun (q0:Nat)=>l.length*(16:Nat)<=(140737488355328:Nat)->∃ (s0:Nat),(l=l/\(↑l.length:Int)=(↑q0:Int)/\(0:Int)=(↑s0:Int))/\(s0<=q0/\(List.take s0 l).all aN=true)/\∀ (s:Nat),s<=q0/\(List.take s l).all aN=true->((↑s:Int)<(↑q0:Int)->(0:Int)<=(↑s:Int)/\(↑s:Int)<(↑l.length:Int)/\∀ (x:Opn),l[s]? = some x->I64 x.set->I64 x.client->(aN x=false->false=r0)/\(aN x=true->I64 ((↑s:Int)+(1:Int))/\∃ (s':Nat),(l=l/\(↑q0:Int)=(↑q0:Int)/\(↑s:Int)+(1:Int)=(↑s':Int))/\(s' <= q0/\(List.take s' l).all aN=true)/\q0 - s' < q0 - s))/\((↑q0:Int)<=(↑s:Int)->true=r0)) l.length):=by kernel_rfl
theorem xm (l:List Opn):Sat Tryz.prog (au aF) 116 [.c (.fz (.nm .opn) (l)),.c (.fn 117 [] [])] [] ⟨[],[.c (.bool (.atom ((l.all (aN)))))],none,false⟩:=by
 refine aR eH (rW l) Tryz.func116 (by decide) (by kernel_rfl) ?_
 rw [wb]
 (repeat' (first | with_reducible refine And.intro ?_ ?_ | with_reducible refine and_imp.2 ?_ | intro))
 all_goals try (first | (first | with_reducible rfl | with_reducible assumption | omega | (refine aq ?_ ?_ <;> omega)) | exact (dt (p:=aN) (by with_reducible assumption) (by with_reducible assumption) (by with_reducible assumption)) | exact (jg (p:=aN) (by with_reducible assumption) (by with_reducible assumption)) | exact (jd (p:=aN) (by with_reducible assumption) (by omega)) | exact rfl)
 all_goals try (refine ⟨0,?_⟩; (repeat' (first | with_reducible refine And.intro ?_ ?_ | with_reducible refine and_imp.2 ?_ | intro)))
 all_goals try (first | (first | with_reducible rfl | with_reducible assumption | omega | (refine aq ?_ ?_ <;> omega)) | exact (dt (p:=aN) (by with_reducible assumption) (by with_reducible assumption) (by with_reducible assumption)) | exact (jg (p:=aN) (by with_reducible assumption) (by with_reducible assumption)) | exact (jd (p:=aN) (by with_reducible assumption) (by omega)) | exact rfl)
 all_goals try (refine ⟨‹Nat› + 1,?_⟩; (repeat' (first | with_reducible refine And.intro ?_ ?_ | with_reducible refine and_imp.2 ?_ | intro)))
 all_goals (first | (first | with_reducible rfl | with_reducible assumption | omega | (refine aq ?_ ?_ <;> omega)) | exact (dt (p:=aN) (by with_reducible assumption) (by with_reducible assumption) (by with_reducible assumption)) | exact (jg (p:=aN) (by with_reducible assumption) (by with_reducible assumption)) | exact (jd (p:=aN) (by with_reducible assumption) (by omega)) | exact rfl)
theorem oX (l:List Sess) (r0:List Sess):tu aF pV [] Tryz.f80 [.c (.fz (.nm .sess) (l))] [] [.c (.own 0)] [.row 44 (.nm .sess) (r0)]=((fun (q0:Prop)=>q0->∀ (b:Bool),(b=true->l=[])->(b=true->r0=[])/\(b=false->q0/\l=r0)) (l.length*(32:Nat)<=(140737488355328:Nat))):=by kernel_rfl
theorem pH (l:List Sess):Sat Tryz.prog (au aF) 80 [.c (.fz (.nm .sess) (l))] [] ⟨[],[.c (.own 0)],some ([.row 44 (.nm .sess) ((l))]),true⟩:=by
 refine eA eH [] Tryz.func80 (by decide) (by kernel_rfl) ?_
 rw [oX]
 exact fun h b hb=>⟨hb,fun _=>⟨h,rfl⟩⟩
theorem rq (l:List Opn) (r0:List Opn):tu aF pV [] Tryz.f81 [.c (.fz (.nm .opn) (l))] [] [.c (.own 0)] [.row 77 (.nm .opn) (r0)]=((fun (q0:Prop)=>q0->∀ (b:Bool),(b=true->l=[])->(b=true->r0=[])/\(b=false->q0/\l=r0)) (l.length*(16:Nat)<=(140737488355328:Nat))):=by kernel_rfl
theorem rK (l:List Opn):Sat Tryz.prog (au aF) 81 [.c (.fz (.nm .opn) (l))] [] ⟨[],[.c (.own 0)],some ([.row 77 (.nm .opn) ((l))]),true⟩:=by
 refine eA eH [] Tryz.func81 (by decide) (by kernel_rfl) ?_
 rw [rq]
 exact fun h b hb=>⟨hb,fun _=>⟨h,rfl⟩⟩
theorem oM (l:List Snap) (r0:List Snap):tu aF pV [] Tryz.f82 [.c (.fz (.nm .snap) (l))] [] [.c (.own 0)] [.row 59 (.nm .snap) (r0)]=((fun (q0:Prop)=>q0->∀ (b:Bool),(b=true->l=[])->(b=true->r0=[])/\(b=false->q0/\l=r0)) (l.length*(64:Nat)<=(140737488355328:Nat))):=by kernel_rfl
theorem pI (l:List Snap):Sat Tryz.prog (au aF) 82 [.c (.fz (.nm .snap) (l))] [] ⟨[],[.c (.own 0)],some ([.row 59 (.nm .snap) ((l))]),true⟩:=by
 refine eA eH [] Tryz.func82 (by decide) (by kernel_rfl) ?_
 rw [oM]
 exact fun h b hb=>⟨hb,fun _=>⟨h,rfl⟩⟩
theorem sM (l:List Int) (r0:List Int):cM aF pV [] Tryz.f83 [.c (.fz .int (l))] [] [.c (.fz .int (r0))]=((fun (q0:Prop)=>q0->∀ (b:Bool),(b=true->l=[])->(b=true->r0=[])/\(b=false->q0/\l=r0)) (l.length*(8:Nat)<=(140737488355328:Nat))):=by kernel_rfl
theorem qy (l:List Int):Sat Tryz.prog (au aF) 83 [.c (.fz .int (l))] [] ⟨[],[.c (.fz .int ((l)))],none,false⟩:=by
 refine aR eH [] Tryz.func83 (by decide) (by kernel_rfl) ?_
 rw [sM]
 intros; repeat' (first | refine And.intro ?_ ?_ | intro)
 all_goals first | rfl | assumption | simp_all
def rY:cC:=(bR 83 (bJ (ah (kC (cL .int)) aO) aP fun (l,_) (_)=>⟨[],[.c (.fz .int ((l)))],none,false⟩) (bR 82 (bJ (ah (kC (cL (.nm .snap))) aO) aP fun (l,_) (_)=>⟨[],[.c (.own 0)],some ([.row 59 (.nm .snap) ((l))]),true⟩) (bR 81 (bJ (ah (kC (cL (.nm .opn))) aO) aP fun (l,_) (_)=>⟨[],[.c (.own 0)],some ([.row 77 (.nm .opn) ((l))]),true⟩) (bR 80 (bJ (ah (kC (cL (.nm .sess))) aO) aP fun (l,_) (_)=>⟨[],[.c (.own 0)],some ([.row 44 (.nm .sess) ((l))]),true⟩) (bR 116 (bJ (ah (kC (cL (.nm .opn))) (ah (kC (lH 117 [] [])) aO)) aP fun (l,_,_) (_)=>⟨[],[.c (.bool (.atom ((l.all (aN)))))],none,false⟩) (bR 112 (bJ (ah (kC (cL (.nm .sess))) (ah (kC (lH 113 [] [])) aO)) aP fun (l,_,_) (_)=>⟨[],[.c (.bool (.atom ((l.all (aM)))))],none,false⟩) (bR 143 (bJ (ah (kC cU) aO) aP fun (n,_) (_)=>⟨[],[.c (.own 0)],some ([.row 5 .u8 ((nz n.n))]),true⟩) pV)))))))
theorem fI:aX Tryz.prog (au aF) rY:=(az (ay (ab (av bO) al) ao fun (l,_) (_) _=>qy l ) (az (ay (ab (av bO) al) ao fun (l,_) (_) _=>pI l ) (az (ay (ab (av bO) al) ao fun (l,_) (_) _=>rK l ) (az (ay (ab (av bO) al) ao fun (l,_) (_) _=>pH l ) (az (ay (ab (av bO) (ab (av b_) al)) ao fun (l,_,_) (_) _=>xm l ) (az (ay (ab (av bO) (ab (av b_) al)) ao fun (l,_,_) (_) _=>wi l ) (az (ay (ab (av Ej) al) ao fun (n,_) (_) _=>HD n ) eH)))))))
end Go.Proofs.YtdggohppeeaipaaGreat
namespace Go.Proofs.YtdggohppeeaipaaGreat
open Go.RowKit
theorem tF {x:Int} {l:List Int} {k:Nat} (h:fi x (l.take k) = -1) (hk:l.length<=k):-1=fi x l:=by rw [List.take_of_length_le hk] at h; exact h.symm
theorem qf {x y:Int} {l:List Int} {k:Nat} (h:fi x (l.take k) = -1) (hy:l[k]? = some y) (e:x=y):(k:Int)=fi x l:=by
 refine AQ (fun j z hj hz hc=>?_) hy e
 have hm:z ∈ l.take k:=by
  obtain ⟨h1,h2⟩:=List.getElem?_eq_some_iff.1 hz
  rw [List.mem_take_iff_getElem]; exact ⟨j,by omega,h2⟩
 have:decide (0<=fi x (l.take k))=true:=by rw [vC,List.contains_iff_mem,hc]; exact hm
 rw [decide_eq_true_eq] at this; omega
theorem tJ {x y:Int} {l:List Int} {k:Nat} (h:fi x (l.take k) = -1) (hy:l[k]? = some y) (e:¬ x=y):fi x (l.take (k+1)) = -1:=by
 have h0:(l.take k).contains x=false:=by
  have:=vC x (l.take k)
  rw [<- this,h]; decide
 have h1:(l.take (k+1)).contains x=false:=by
  rw [aD hy,<- Bool.not_eq_true,List.contains_iff_mem] at *
  intro hm
  rcases List.mem_append.1 hm with hm | hm
  ·exact h0 hm
  ·exact e (List.mem_singleton.1 hm)
 rw [<- vC,decide_eq_false_iff_not] at h1
 unfold fi at h1 ⊢
 split
 ·rename_i i hi; rw [hi] at h1; dsimp only at h1; omega
 ·rfl
theorem Fl {l:List Int} {k:Nat} {x:Int} (hr:cr l=true) (hx:l[k]? = some x):0<=x:=Int.le_of_lt (te hr x (List.mem_of_getElem? hx)).1
theorem tY {l:List Int} {k:Nat} {x:Int} (hr:cr l=true) (hx:l[k]? = some x):((er (l.take k)).length+(nz x.toNat).length)*1<=140737488355328:=by
 have h1:=yq (l:=l.take k) (fun x hx=>(te hr x (List.mem_of_mem_take hx)).2)
 have h2:=oR hr
 have h3:=te hr x (List.mem_of_getElem? hx)
 have h4:=mg (n:=x.toNat) (by omega)
 rw [List.length_take] at h1; omega
def yX (l:List Int) (x:Int):List (Nat × LI):=[(2,{ σ:=Nat,F:=fun k=>([(0,one (.fz .int (l))),(1,one (.int (x))),(7,one (.int (l).length)),(8,one (.int k))],[]),J:=fun k=>k<=l.length/\fi x (l.take k) = -1,μ:=fun k=>(l).length - k })]
def vo (l:List Int):List (Nat × LI):=[(5,{ σ:=Nat,F:=fun k=>([(4,one (.own 0)),(10,one (.fz .int (l))),(11,one (.int (l).length)),(12,one (.int k))],[.row 5 .u8 ((er (l.take k)))]),J:=fun k=>k<=l.length/\cr l=true,μ:=fun k=>(l).length - k })]
theorem Ci (l:List Int) (x:Int) (r0:Int):cM aF rY (yX l x) Tryz.f144 [.c (.fz .int (l)),.c (.int (x))] [] [.c (.int (r0))]=((fun (q1:Int)=>(fun (q0:Nat)=>l.length*(8:Nat)<=(140737488355328:Nat)->I64 x->∃ (s0:Nat),(l=l/\x=x/\(↑l.length:Int)=(↑q0:Int)/\(0:Int)=(↑s0:Int))/\(s0<=q0/\fi x (List.take s0 l) = -q1)/\∀ (s:Nat),s<=q0/\fi x (List.take s l) = -q1->((↑s:Int)<(↑q0:Int)->(0:Int)<=(↑s:Int)/\(↑s:Int)<(↑l.length:Int)/\∀ (x_1:Int),l[s]? = some x_1->I64 x_1->(x=x_1->(↑s:Int)=r0)/\(¬x=x_1->I64 ((↑s:Int)+q1)/\∃ (s':Nat),(l=l/\x=x/\(↑q0:Int)=(↑q0:Int)/\(↑s:Int)+q1=(↑s':Int))/\(s' <= q0/\fi x (List.take s' l) = -q1)/\q0 - s' < q0 - s))/\((↑q0:Int)<=(↑s:Int) -> -q1=r0)) l.length) (1:Int)):=by kernel_rfl
theorem Dz (l:List Int) (x:Int):Sat Tryz.prog (au aF) 144 [.c (.fz .int (l)),.c (.int (x))] [] ⟨[],[.c (.int ((fi x l)))],none,false⟩:=by
 refine aR fI (yX l x) Tryz.func144 (by decide) (by kernel_rfl) ?_
 rw [Ci]
 (repeat' (first | with_reducible refine And.intro ?_ ?_ | with_reducible refine and_imp.2 ?_ | intro))
 all_goals try (first | (first | with_reducible rfl | with_reducible assumption | omega | (refine aq ?_ ?_ <;> omega)) | exact rfl | exact (tF (by with_reducible assumption) (by omega)) | exact (qf (by with_reducible assumption) (by with_reducible assumption) (by with_reducible assumption)) | exact (tJ (by with_reducible assumption) (by with_reducible assumption) (by with_reducible assumption)))
 all_goals try (refine ⟨0,?_⟩; (repeat' (first | with_reducible refine And.intro ?_ ?_ | with_reducible refine and_imp.2 ?_ | intro)))
 all_goals try (first | (first | with_reducible rfl | with_reducible assumption | omega | (refine aq ?_ ?_ <;> omega)) | exact rfl | exact (tF (by with_reducible assumption) (by omega)) | exact (qf (by with_reducible assumption) (by with_reducible assumption) (by with_reducible assumption)) | exact (tJ (by with_reducible assumption) (by with_reducible assumption) (by with_reducible assumption)))
 all_goals try (refine ⟨‹Nat› + 1,?_⟩; (repeat' (first | with_reducible refine And.intro ?_ ?_ | with_reducible refine and_imp.2 ?_ | intro)))
 all_goals (first | (first | with_reducible rfl | with_reducible assumption | omega | (refine aq ?_ ?_ <;> omega)) | exact rfl | exact (tF (by with_reducible assumption) (by omega)) | exact (qf (by with_reducible assumption) (by with_reducible assumption) (by with_reducible assumption)) | exact (tJ (by with_reducible assumption) (by with_reducible assumption) (by with_reducible assumption)))
theorem Dm (n:Int) (most:Int) (named:Bool) (r0:Bool):cM aF rY [] Tryz.f138 [.c (.int (n)),.c (.int (most)),.c (.bool (.atom (named)))] [] [.c (.bool (.atom (r0)))]=(I64 n->I64 most->(named=true->(decide ((1:Int)<=n) && decide (n<=most))=r0)/\(named=false->decide (n=(0:Int))=r0)):=by kernel_rfl
theorem B_ (n:Int) (most:Int) (named:Bool):Sat Tryz.prog (au aF) 138 [.c (.int (n)),.c (.int (most)),.c (.bool (.atom (named)))] [] ⟨[],[.c (.bool (.atom ((fP n most named))))],none,false⟩:=by
 refine aR fI [] Tryz.func138 (by decide) (by kernel_rfl) ?_
 rw [Dm]
 grind [fP]
theorem Bz (l:List Int) (r0:List UInt8) (r1:Int):cM aF rY (vo l) Tryz.f135 [.c (.fz .int (l))] [] [.c (.fz .u8 (r0)),.c (.int (r1))]=((fun (q1:Prop)=>(fun (q0:Nat)=>l.length*(8:Nat)<=(140737488355328:Nat)->(cr l=false->r0=[]/\(1:Int)=r1)/\(q1->∃ (s0:Nat),(l=l/\(↑l.length:Int)=(↑q0:Int)/\(0:Int)=(↑s0:Int)/\er (List.take s0 l)=[])/\(s0<=q0/\q1)/\∀ (s:Nat),s<=q0/\q1->((↑s:Int)<(↑q0:Int)->(0:Int)<=(↑s:Int)/\(↑s:Int)<(↑l.length:Int)/\∀ (x:Int),l[s]? = some x->I64 x->(0:Int)<=x/\((er (List.take s l)).length+(nz x.toNat).length)*(1:Nat)<=(140737488355328:Nat)/\I64 ((↑s:Int)+(1:Int))/\∃ (s':Nat),(l=l/\(↑q0:Int)=(↑q0:Int)/\(↑s:Int)+(1:Int)=(↑s':Int)/\er (List.take s l)++nz x.toNat=er (List.take s' l))/\(s' <= q0/\q1)/\q0 - s' < q0 - s)/\((↑q0:Int)<=(↑s:Int)->er (List.take s l)=r0/\(0:Int)=r1))) l.length) (cr l=true)):=by kernel_rfl
theorem AZ (l:List Int):Sat Tryz.prog (au aF) 135 [.c (.fz .int (l))] [] ⟨[],[.c (.fz .u8 ((fL l))),.c (.int ((cK l)))],none,false⟩:=by
 refine aR fI (vo l) Tryz.func135 (by decide) (by kernel_rfl) ?_
 rw [Bz]
 (repeat' (first | with_reducible refine And.intro ?_ ?_ | with_reducible refine and_imp.2 ?_ | intro))
 all_goals try (first | (first | with_reducible rfl | with_reducible assumption | omega | (refine aq ?_ ?_ <;> omega)) | exact rfl | exact (j_ (by with_reducible assumption)).symm | exact (fw (by with_reducible assumption)) | exact (eD (by with_reducible assumption)) | exact (lT (by with_reducible assumption) (by omega)) | exact (jJ (by with_reducible assumption)) | exact (Fl (by with_reducible assumption) (by with_reducible assumption)) | exact (tY (by with_reducible assumption) (by with_reducible assumption)))
 all_goals try (refine ⟨0,?_⟩; (repeat' (first | with_reducible refine And.intro ?_ ?_ | with_reducible refine and_imp.2 ?_ | intro)))
 all_goals try (first | (first | with_reducible rfl | with_reducible assumption | omega | (refine aq ?_ ?_ <;> omega)) | exact rfl | exact (j_ (by with_reducible assumption)).symm | exact (fw (by with_reducible assumption)) | exact (eD (by with_reducible assumption)) | exact (lT (by with_reducible assumption) (by omega)) | exact (jJ (by with_reducible assumption)) | exact (Fl (by with_reducible assumption) (by with_reducible assumption)) | exact (tY (by with_reducible assumption) (by with_reducible assumption)))
 all_goals try (refine ⟨‹Nat› + 1,?_⟩; (repeat' (first | with_reducible refine And.intro ?_ ?_ | with_reducible refine and_imp.2 ?_ | intro)))
 all_goals (first | (first | with_reducible rfl | with_reducible assumption | omega | (refine aq ?_ ?_ <;> omega)) | exact rfl | exact (j_ (by with_reducible assumption)).symm | exact (fw (by with_reducible assumption)) | exact (eD (by with_reducible assumption)) | exact (lT (by with_reducible assumption) (by omega)) | exact (jJ (by with_reducible assumption)) | exact (Fl (by with_reducible assumption) (by with_reducible assumption)) | exact (tY (by with_reducible assumption) (by with_reducible assumption)))
theorem yF (s:State) (x:Int) (r0:Int):cM aF rY [] Tryz.f35 [.agg (cellsOf (.nm .state) s),.c (.int (x))] [] [.c (.int (r0))]=(I64 s.version->I64 s.next->I64 s.keep->I64 s.quota->s.sess.length*(32:Nat)<=(140737488355328:Nat)->s.opens.length*(16:Nat)<=(140737488355328:Nat)->s.snaps.length*(64:Nat)<=(140737488355328:Nat)->I64 x->I64 (ai Sess.client x s.sess)->ai Sess.client x s.sess=r0):=by kernel_rfl
theorem Ag (s:State) (x:Int):Sat Tryz.prog (au aF) 35 [.agg (cellsOf (.nm .state) s),.c (.int (x))] [] ⟨[],[.c (.int ((ai Sess.client x s.sess)))],none,false⟩:=by
 refine aR fI [] Tryz.func35 (by decide) (by kernel_rfl) ?_
 rw [yF]
 grind
theorem zQ (s:State) (x:Int) (r0:Int):cM aF rY [] Tryz.f91 [.agg (cellsOf (.nm .state) s),.c (.int (x))] [] [.c (.int (r0))]=(I64 s.version->I64 s.next->I64 s.keep->I64 s.quota->s.sess.length*(32:Nat)<=(140737488355328:Nat)->s.opens.length*(16:Nat)<=(140737488355328:Nat)->s.snaps.length*(64:Nat)<=(140737488355328:Nat)->I64 x->I64 (ai Opn.set x s.opens)->ai Opn.set x s.opens=r0):=by kernel_rfl
theorem Aa (s:State) (x:Int):Sat Tryz.prog (au aF) 91 [.agg (cellsOf (.nm .state) s),.c (.int (x))] [] ⟨[],[.c (.int ((ai Opn.set x s.opens)))],none,false⟩:=by
 refine aR fI [] Tryz.func91 (by decide) (by kernel_rfl) ?_
 rw [zQ]
 grind
theorem zX (s:State) (x:Int) (r0:Int):cM aF rY [] Tryz.f43 [.agg (cellsOf (.nm .state) s),.c (.int (x))] [] [.c (.int (r0))]=(I64 s.version->I64 s.next->I64 s.keep->I64 s.quota->s.sess.length*(32:Nat)<=(140737488355328:Nat)->s.opens.length*(16:Nat)<=(140737488355328:Nat)->s.snaps.length*(64:Nat)<=(140737488355328:Nat)->I64 x->I64 (ai Snap.id x s.snaps)->ai Snap.id x s.snaps=r0):=by kernel_rfl
theorem yJ (s:State) (x:Int):Sat Tryz.prog (au aF) 43 [.agg (cellsOf (.nm .state) s),.c (.int (x))] [] ⟨[],[.c (.int ((ai Snap.id x s.snaps)))],none,false⟩:=by
 refine aR fI [] Tryz.func43 (by decide) (by kernel_rfl) ?_
 rw [zX]
 grind
def Co:cC:=(bR 43 (bJ (ah (kT (.nm .state)) (ah (kC cI) aO)) aP fun (s,x,_) (_)=>⟨[],[.c (.int ((ai Snap.id x s.snaps)))],none,false⟩) (bR 91 (bJ (ah (kT (.nm .state)) (ah (kC cI) aO)) aP fun (s,x,_) (_)=>⟨[],[.c (.int ((ai Opn.set x s.opens)))],none,false⟩) (bR 35 (bJ (ah (kT (.nm .state)) (ah (kC cI) aO)) aP fun (s,x,_) (_)=>⟨[],[.c (.int ((ai Sess.client x s.sess)))],none,false⟩) (bR 135 (bJ (ah (kC (cL .int)) aO) aP fun (l,_) (_)=>⟨[],[.c (.fz .u8 ((fL l))),.c (.int ((cK l)))],none,false⟩) (bR 138 (bJ (ah (kC cI) (ah (kC cI) (ah (kC cB) aO))) aP fun (n,most,named,_) (_)=>⟨[],[.c (.bool (.atom ((fP n most named))))],none,false⟩) (bR 144 (bJ (ah (kC (cL .int)) (ah (kC cI) aO)) aP fun (l,x,_) (_)=>⟨[],[.c (.int ((fi x l)))],none,false⟩) rY))))))
theorem pT:aX Tryz.prog (au aF) Co:=(az (ay (ab bK (ab (av aw) al)) ao fun (s,x,_) (_) _=>yJ s x ) (az (ay (ab bK (ab (av aw) al)) ao fun (s,x,_) (_) _=>Aa s x ) (az (ay (ab bK (ab (av aw) al)) ao fun (s,x,_) (_) _=>Ag s x ) (az (ay (ab (av bO) al) ao fun (l,_) (_) _=>AZ l ) (az (ay (ab (av aw) (ab (av aw) (ab (av ox) al))) ao fun (n,most,named,_) (_) _=>B_ n most named ) (az (ay (ab (av bO) (ab (av aw) al)) ao fun (l,x,_) (_) _=>Dz l x ) fI))))))
end Go.Proofs.YtdggohppeeaipaaGreat
namespace Go.Proofs.YtdggohppeeaipaaGreat
open Go.RowKit
theorem tz (l:List Int) (x:Int) (r0:Bool):cM aF Co [] Tryz.f137 [.c (.fz .int (l)),.c (.int (x))] [] [.c (.bool (.atom (r0)))]=(l.length*(8:Nat)<=(140737488355328:Nat)->I64 x->I64 (fi x l)->decide ((0:Int)<=fi x l)=r0):=by kernel_rfl
theorem tq (l:List Int) (x:Int):Sat Tryz.prog (au aF) 137 [.c (.fz .int (l)),.c (.int (x))] [] ⟨[],[.c (.bool (.atom ((l.contains x))))],none,false⟩:=by
 refine aR pT [] Tryz.func137 (by decide) (by kernel_rfl) ?_
 rw [tz]
 intros; exact vC _ _
theorem AU (x:Snap) (v:Int) (t:Int) (r0:Bool):cM aF Co [] Tryz.f134 [.agg (cellsOf (.nm .snap) x),.c (.ptr 0 0),.c (.ptr 1 0)] [.box 3 ([.int (v)]),.box 3 ([.int (t)])] [.c (.bool (.atom (r0)))]=(I64 x.id->I64 x.set->x.chunks.length*(8:Nat)<=(140737488355328:Nat)->x.tag.b.length<=(140737488355328:Nat)->(fL x.chunks).length*(1:Nat)<=(140737488355328:Nat)->I64 (cK x.chunks)->(decide (cK x.chunks=(0:Int)) && aQ x.set (1:Int) (8:Int) && (!x.held || decide ((2:Int)<=v)) && decide ((↑x.tag.b.length:Int)<=t))=r0):=by kernel_rfl
theorem zb (x:Snap) (v:Int) (t:Int):Sat Tryz.prog (au aF) 134 [.agg (cellsOf (.nm .snap) x),.c (.ptr 0 0),.c (.ptr 1 0)] [.box 3 ([.int (v)]),.box 3 ([.int (t)])] ⟨[],[.c (.bool (.atom ((bl v t x))))],none,false⟩:=by
 refine aR pT [] Tryz.func134 (by decide) (by kernel_rfl) ?_
 rw [AU]
 intros; rfl
def Dn:cC:=(bR 134 (bJ (ah (kT (.nm .snap)) (ah (kC (bU 0 0)) (ah (kC (bU 1 0)) aO))) (aA (bT 3 (ak cI bP)) (aA (bT 3 (ak cI bP)) aP)) fun (x,_,_,_) ((v,_),(t,_),_)=>⟨[],[.c (.bool (.atom ((bl v t x))))],none,false⟩) (bR 137 (bJ (ah (kC (cL .int)) (ah (kC cI) aO)) aP fun (l,x,_) (_)=>⟨[],[.c (.bool (.atom ((l.contains x))))],none,false⟩) Co))
theorem qn:aX Tryz.prog (au aF) Dn:=(az (ay (ab bK (ab (av aJ) (ab (av aJ) al))) (ag (aH (ae aw aG)) (ag (aH (ae aw aG)) ao)) fun (x,_,_,_) ((v,_),(t,_),_) _=>zb x v t ) (az (ay (ab (av bO) (ab (av aw) al)) ao fun (l,x,_) (_) _=>tq l x ) pT))
end Go.Proofs.YtdggohppeeaipaaGreat
namespace Go.Proofs.YtdggohppeeaipaaGreat
open Go.RowKit
def rh (l:List Snap) (v:Int) (t:Int):List (Nat × LI):=[(2,{ σ:=Nat,F:=fun k=>([(1,one (.fn 134 [] [(0,0),(1,0)])),(7,one (.fz (.nm .snap) (l))),(8,one (.int (l).length)),(9,one (.int k))],[.box 3 ([.int ((v))]),.box 3 ([.int ((t))])]),J:=fun k=>k<=l.length/\(l.take k).all ((bl v t))=true,μ:=fun k=>(l).length - k })]
theorem Dh (l:List Int) (c:Command) (r0:Bool):cM aF Dn [] Tryz.f136 [.c (.fz .int (l)),.c (.ptr 0 0)] [.box 29 (cellsOf (.nm .command) (c))] [.c (.bool (.atom (r0)))]=(l.length*(8:Nat)<=(140737488355328:Nat)->l.contains c.kind=r0):=by kernel_rfl
theorem DS (l:List Int) (c:Command):Sat Tryz.prog (au aF) 136 [.c (.fz .int (l)),.c (.ptr 0 0)] [.box 29 (cellsOf (.nm .command) (c))] ⟨[],[.c (.bool (.atom ((l.contains c.kind))))],none,false⟩:=by
 refine aR qn [] Tryz.func136 (by decide) (by kernel_rfl) ?_
 rw [Dh]
 grind
theorem xI (l:List Snap) (v:Int) (t:Int) (r0:Bool):cM aF Dn (rh l v t) Tryz.f133 [.c (.fz (.nm .snap) (l)),.c (.fn 134 [] [(0,0),(1,0)])] [.box 3 ([.int (v)]),.box 3 ([.int (t)])] [.c (.bool (.atom (r0)))]=((fun (q0:Nat)=>l.length*(64:Nat)<=(140737488355328:Nat)->∃ (s0:Nat),(l=l/\(↑l.length:Int)=(↑q0:Int)/\(0:Int)=(↑s0:Int)/\v=v/\t=t)/\(s0<=q0/\(List.take s0 l).all (bl v t)=true)/\∀ (s:Nat),s<=q0/\(List.take s l).all (bl v t)=true->((↑s:Int)<(↑q0:Int)->(0:Int)<=(↑s:Int)/\(↑s:Int)<(↑l.length:Int)/\∀ (x:Snap),l[s]? = some x->I64 x.id->I64 x.set->x.chunks.length*(8:Nat)<=(140737488355328:Nat)->x.tag.b.length<=(140737488355328:Nat)->(bl v t x=false->false=r0)/\(bl v t x=true->I64 ((↑s:Int)+(1:Int))/\∃ (s':Nat),(l=l/\(↑q0:Int)=(↑q0:Int)/\(↑s:Int)+(1:Int)=(↑s':Int)/\v=v/\t=t)/\(s' <= q0/\(List.take s' l).all (bl v t)=true)/\q0 - s' < q0 - s))/\((↑q0:Int)<=(↑s:Int)->true=r0)) l.length):=by kernel_rfl
theorem wM (l:List Snap) (v:Int) (t:Int):Sat Tryz.prog (au aF) 133 [.c (.fz (.nm .snap) (l)),.c (.fn 134 [] [(0,0),(1,0)])] [.box 3 ([.int (v)]),.box 3 ([.int (t)])] ⟨[],[.c (.bool (.atom ((l.all ((bl v t))))))],none,false⟩:=by
 refine aR qn (rh l v t) Tryz.func133 (by decide) (by kernel_rfl) ?_
 rw [xI]
 (repeat' (first | with_reducible refine And.intro ?_ ?_ | with_reducible refine and_imp.2 ?_ | intro))
 all_goals try (first | (first | with_reducible rfl | with_reducible assumption | omega | (refine aq ?_ ?_ <;> omega)) | exact (dt (p:=(bl v t)) (by with_reducible assumption) (by with_reducible assumption) (by with_reducible assumption)) | exact (jg (p:=(bl v t)) (by with_reducible assumption) (by with_reducible assumption)) | exact (jd (p:=(bl v t)) (by with_reducible assumption) (by omega)) | exact rfl)
 all_goals try (refine ⟨0,?_⟩; (repeat' (first | with_reducible refine And.intro ?_ ?_ | with_reducible refine and_imp.2 ?_ | intro)))
 all_goals try (first | (first | with_reducible rfl | with_reducible assumption | omega | (refine aq ?_ ?_ <;> omega)) | exact (dt (p:=(bl v t)) (by with_reducible assumption) (by with_reducible assumption) (by with_reducible assumption)) | exact (jg (p:=(bl v t)) (by with_reducible assumption) (by with_reducible assumption)) | exact (jd (p:=(bl v t)) (by with_reducible assumption) (by omega)) | exact rfl)
 all_goals try (refine ⟨‹Nat› + 1,?_⟩; (repeat' (first | with_reducible refine And.intro ?_ ?_ | with_reducible refine and_imp.2 ?_ | intro)))
 all_goals (first | (first | with_reducible rfl | with_reducible assumption | omega | (refine aq ?_ ?_ <;> omega)) | exact (dt (p:=(bl v t)) (by with_reducible assumption) (by with_reducible assumption) (by with_reducible assumption)) | exact (jg (p:=(bl v t)) (by with_reducible assumption) (by with_reducible assumption)) | exact (jd (p:=(bl v t)) (by with_reducible assumption) (by omega)) | exact rfl)
def CJ:cC:=(bR 133 (bJ (ah (kC (cL (.nm .snap))) (ah (kC (lH 134 [] [(0,0),(1,0)])) aO)) (aA (bT 3 (ak cI bP)) (aA (bT 3 (ak cI bP)) aP)) fun (l,_,_) ((v,_),(t,_),_)=>⟨[],[.c (.bool (.atom ((l.all ((bl v t))))))],none,false⟩) (bR 136 (bJ (ah (kC (cL .int)) (ah (kC (bU 0 0)) aO)) (aA (bT 29 (qq (.nm .command) bP)) aP) fun (l,_,_) ((c,_),_)=>⟨[],[.c (.bool (.atom ((l.contains c.kind))))],none,false⟩) Dn))
theorem oZ:aX Tryz.prog (au aF) CJ:=(az (ay (ab (av bO) (ab (av b_) al)) (ag (aH (ae aw aG)) (ag (aH (ae aw aG)) ao)) fun (l,_,_) ((v,_),(t,_),_) _=>wM l v t ) (az (ay (ab (av bO) (ab (av aJ) al)) (ag (aH (cX aG)) ao) fun (l,_,_) ((c,_),_) _=>DS l c ) qn))
end Go.Proofs.YtdggohppeeaipaaGreat
namespace Go.Proofs.YtdggohppeeaipaaGreat
open Go.RowKit
theorem HJ (k:Int):(if k=12 then some (Span.mk 0 64) else if k=8 then some (Span.mk 2 3) else if k=6 then some (Span.mk 0 8) else none).getD (dflt (.nm .span))=⟨(fS k).1,(fS k).2⟩:=by
 by_cases h1:k=12
 ·subst h1; rfl
 ·by_cases h2:k=8
  ·subst h2; rfl
  ·by_cases h3:k=6
   ·subst h3; rfl
   ·simp [fS,mO,h1,h2,h3,dflt]; rfl
theorem Fi (c:Command) (r0:Bool):cM aF CJ [] Tryz.f121 [.agg (cellsOf (.nm .command) c)] [] [.c (.bool (.atom (r0)))]=((fun (q9:Int)=>(fun (q8:Int)=>(fun (q7:Prop)=>(fun (q6:Bool)=>(fun (q5:Bool)=>(fun (q4:Bool)=>(fun (q3:Prop)=>(fun (q2:Prop)=>(fun (q1:Prop)=>(fun (q0:den (Sh.nm NT.span))=>I64 q8->I64 c.client->I64 c.seq->I64 c.set->I64 c.id->I64 c.n->c.chunks.length*(8:Nat)<=(140737488355328:Nat)->c.text.b.length<=(140737488355328:Nat)->(q8=(3:Int)->((decide (q0.lo<=c.n) && decide (c.n<=q0.hi))=true->(cr c.chunks=true->(q7->q1)/\(¬q7->q2))/\(cr c.chunks=false->q2))/\((decide (q0.lo<=c.n) && decide (c.n<=q0.hi))=false->q2))/\(¬q8=(3:Int)->(q8=(11:Int)->((decide (q0.lo<=c.n) && decide (c.n<=q0.hi))=true->(q3->((↑c.text.b.length:Int)<=(16:Int)->q1)/\((16:Int)<(↑c.text.b.length:Int)->q2))/\(¬q3->q2))/\((decide (q0.lo<=c.n) && decide (c.n<=q0.hi))=false->q2))/\(¬q8=(11:Int)->((decide (q0.lo<=c.n) && decide (c.n<=q0.hi))=true->(q3->(q7->q1)/\(¬q7->q2))/\(¬q3->q2))/\((decide (q0.lo<=c.n) && decide (c.n<=q0.hi))=false->q2)))) (((fun (j:Int)=>if j=(12:Int) then some (Span.mk (0:Int) (64:Int)) else (fun (j:Int)=>if j=q9 then some (Span.mk (2:Int) (3:Int)) else (fun (j:Int)=>if j=(6:Int) then some (Span.mk (0:Int) q9) else (fun (_:Int)=>none) j) j) j) q8).getD (dflt (Sh.nm NT.span)))) ((q6=true->(q5=true->(q4=true->fP c.id (1048576:Int) ([(5:Int),(7:Int),(9:Int),(10:Int),(11:Int)].contains q8)=r0)/\(q4=false->q2))/\(q5=false->q2))/\(q6=false->q2))) (false=r0)) ((↑c.chunks.length:Int)=(0:Int))) (fP c.set q9 ([(2:Int),(3:Int),(4:Int)].contains q8))) (fP c.seq (1048576:Int) ![(1:Int),q9].contains q8)) (fP c.client q9 ![q9].contains q8)) (c.text=Str.mk [])) c.kind) (8:Int)):=by kernel_rfl
theorem EN (c:Command):Sat Tryz.prog (au aF) 121 [.agg (cellsOf (.nm .command) c)] [] ⟨[],[.c (.bool (.atom ((dr c))))],none,false⟩:=by
 refine aR oZ [] Tryz.func121 (by decide) (by kernel_rfl) ?_
 rw [Fi]
 simp only [HJ]
 (repeat' (first | with_reducible refine And.intro ?_ ?_ | with_reducible refine and_imp.2 ?_ | intro))
 all_goals ((unfold dr uG Hk; simp_all) <;> (intros; omega))
theorem Cn (s:State) (v:Int) (r0:Bool):cM aF CJ [] Tryz.f118 [.agg (cellsOf (.nm .state) s),.c (.int (v))] [] [.c (.bool (.atom (r0)))]=((fun (q1:Nat)=>(fun (q0:Int)=>I64 s.version->I64 s.next->I64 s.keep->I64 s.quota->s.sess.length*(32:Nat)<=(140737488355328:Nat)->s.opens.length*(16:Nat)<=(140737488355328:Nat)->q1*(64:Nat)<=(140737488355328:Nat)->I64 v->((↑q1:Int)<=(16:Int)->I64 q0/\q0<=(1048576:Int))/\((16:Int)<(↑q1:Int)\/aj Snap.id q0 (0:Int) s.snaps=false->false=r0)/\((↑q1:Int)<=(16:Int)/\aj Snap.id q0 (0:Int) s.snaps=true->(v<(3:Int)->s.snaps.all (bl v (0:Int))=r0)/\((3:Int)<=v->s.snaps.all (bl v (16:Int))=r0))) (s.next - (1:Int))) s.snaps.length):=by kernel_rfl
theorem CD (s:State) (v:Int) (h0:1<=s.next/\s.next<=1048576):Sat Tryz.prog (au aF) 118 [.agg (cellsOf (.nm .state) s),.c (.int (v))] [] ⟨[1<=s.next/\s.next<=1048576],[.c (.bool (.atom ((cQ s v))))],none,false⟩:=by
 refine aR oZ [] Tryz.func118 (by decide) (by kernel_rfl) ?_
 rw [Cn]
 (repeat' (first | with_reducible refine And.intro ?_ ?_ | with_reducible refine and_imp.2 ?_ | intro))
 all_goals (first | (first | with_reducible rfl | with_reducible assumption | omega | (refine aq ?_ ?_ <;> omega)) | ((simp only [cQ,cG]; simp_all) <;> (intros; omega)) | (simp only [cQ,cG]; grind))
def wu:cC:=(bR 118 (bJ (ah (kT (.nm .state)) (ah (kC cI) aO)) aP fun (s,v,_) (_)=>⟨[1<=s.next/\s.next<=1048576],[.c (.bool (.atom ((cQ s v))))],none,false⟩) (bR 121 (bJ (ah (kT (.nm .command)) aO) aP fun (c,_) (_)=>⟨[],[.c (.bool (.atom ((dr c))))],none,false⟩) CJ))
theorem iT:aX Tryz.prog (au aF) wu:=(az (ay (ab bK (ab (av aw) al)) ao fun (s,v,_) (_) hp=>CD s v (eP hp)) (az (ay (ab bK al) ao fun (c,_) (_) _=>EN c ) oZ))
end Go.Proofs.YtdggohppeeaipaaGreat
namespace Go.Proofs.YtdggohppeeaipaaGreat
open Go.RowKit
def eO (n:Int) (used:Bool) (lo hi:Int):Bool:=if used then aQ n lo hi else decide (n=0)
def cR (s:State) (at_:Nat) (k:Nat):Int:=(((s.snaps.drop (at_+1)).take k).filter fun x=>decide (x.set=(s.snaps.getD at_ (dflt (.nm .snap))).set)).length
def fY (s:State) (at_:Int):Bool:=if at_<0\/(s.snaps.length:Int)<=at_ then false else decide (cR s at_.toNat s.snaps.length<s.keep)
def nch (l:List Snap):Nat:=(l.flatMap Snap.chunks).length
def pB (c:Int) (l:List Snap):Nat:=(l.flatMap Snap.chunks).count c
def bb (id:Int) (l:List Snap):List Snap:=l.filter fun x=>!decide (x.id=id)
theorem gd {α:Type} {l:List α} {k:Nat} {d:α} (h:(k:Int)<l.length):l[k]? = some (l.getD k d):=by
 have hk:k<l.length:=by omega
 rw [List.getD_eq_getElem?_getD,List.getElem?_eq_getElem hk]; rfl
theorem pS {l:List Int} {k:Nat} (h:aj id 64 0 (l.take k)=true) (hk:(k:Int)<l.length) (hb:aQ (l.getD k (dflt .int)) 1 64=true/\((k:Int)<=0\/l.getD ((k:Int) - 1).toNat (dflt .int)<l.getD k (dflt .int))):aj id 64 0 (l.take (k+1))=true:=by
 have h1:=lf hb.1
 refine gk (key:=id) h (gd hk) ?_ h1.2
 by_cases h0:k=0
 ·subst h0; show (0:Int)<l.getD 0 (dflt .int); omega
 ·rw [fk (by omega) (gd (d:=dflt .int) (by omega))]
  have:=hb.2.resolve_left (by omega)
  rwa [show ((k:Int) - 1).toNat=k - 1 by omega] at this
theorem pA {l:List Int} {k:Nat} (hk:(k:Int)<l.length) (hb:aQ (l.getD k (dflt .int)) 1 64=false\/0<(k:Int)/\l.getD k (dflt .int)<=l.getD ((k:Int) - 1).toNat (dflt .int)) (h:aj id 64 0 (l.take k)=true):false=cr l:=by
 refine gz (gd (d:=dflt .int) hk) fun h2=>?_
 rcases hb with hb | ⟨h3,h4⟩
 ·have h5:=JW hb
  have:=wq h
  omega
 ·rw [fk (by omega) (gd (d:=dflt .int) (by omega))] at h2
  rw [show ((k:Int) - 1).toNat=k - 1 by omega] at h4
  have:=h2.1
  dsimp only [id] at this
  omega
theorem tn {s:State} {a:Nat}:0=cR s a 0:=by simp [cR]
theorem Di {s:State} {a k:Nat}:cR s a k<=(k:Int):=by
 have h1:=List.length_filter_le (fun x:Snap=>decide (x.set=(s.snaps.getD a (dflt (.nm .snap))).set)) ((s.snaps.drop (a+1)).take k)
 have h2:((s.snaps.drop (a+1)).take k).length<=k:=by rw [List.length_take]; omega
 unfold cR; omega
theorem C_ {s:State} {a k:Nat}:0<=cR s a k:=by unfold cR; omega
theorem tC {s:State} {a k:Nat} (h:a+1+k<=s.snaps.length) (h2:s.snaps.length*64<=140737488355328):I64 (cR s a k+1):=by
 have h1:=Di (s:=s) (a:=a) (k:=k)
 have h0:=C_ (s:=s) (a:=a) (k:=k)
 constructor <;> omega
theorem uy {s:State} {a k:Nat} {x:Snap} (hx:(s.snaps.drop (a+1))[k]? = some x) (h:x.set=(s.snaps.getD a (dflt (.nm .snap))).set):cR s a k+1=cR s a (k+1):=by
 unfold cR
 rw [aD hx,List.filter_append,List.length_append]
 simp [h]
theorem ud {s:State} {a k:Nat} {x:Snap} (hx:(s.snaps.drop (a+1))[k]? = some x) (h:¬ x.set=(s.snaps.getD a (dflt (.nm .snap))).set):cR s a k=cR s a (k+1):=by
 unfold cR
 rw [aD hx,List.filter_append,List.length_append]
 rw [show List.filter (fun x:Snap=>decide (x.set=(s.snaps.getD a (dflt (.nm .snap))).set)) [x]=[] by simp only [List.filter_cons,h,decide_false,List.filter_nil]; rfl]
 simp
theorem mw {s:State} {a:Int} {k:Nat} (h0:0<=a) (ha:a<s.snaps.length) (h:(s.snaps.length:Int)<=a+1+k):decide (cR s a.toNat k<s.keep)=fY s a:=by
 unfold fY
 rw [if_neg (by omega)]
 have e:∀ m:Nat,(s.snaps.length:Int)<=a+1+m->cR s a.toNat m=cR s a.toNat s.snaps.length:=fun m hm=>by
  unfold cR
  rw [List.take_of_length_le (by rw [List.length_drop]; omega),List.take_of_length_le (by rw [List.length_drop]; omega)]
 rw [e k h]
theorem nn {s:State} {a:Int} (h:a<0\/(s.snaps.length:Int)<=a):false=fY s a:=by unfold fY; rw [if_pos h]
theorem Aq {id:Int} {l:List Snap} {k:Nat} {x y:Snap} (h:¬ x.id=id) (hx:l[k]? = some x) (hy:l[k]? = some y):bb id (l.take k)++[y]=bb id (l.take (k+1)):=by
 rw [hx] at hy; cases hy
 unfold bb; rw [aD hx,List.filter_append]; simp [h]
theorem yR {id:Int} {l:List Snap} {k:Nat} {x:Snap} (hx:l[k]? = some x) (h:x.id=id):bb id (l.take k)=bb id (l.take (k+1)):=by
 unfold bb; rw [aD hx,List.filter_append]; simp [h]
theorem tE {id:Int} {l:List Snap} {k:Nat} (h:(l.length:Int)<=k):bb id (l.take k)=bb id l:=by rw [List.take_of_length_le (by omega)]
theorem ub {id:Int} {l:List Snap} {k:Nat} {x:Snap} (h:(k:Int)<l.length) (hl:l.length*64<=140737488355328):((bb id (l.take k)).length+[x].length)*64<=140737488355328:=by
 have h1:=List.length_filter_le (fun x:Snap=>!decide (x.id=id)) (l.take k)
 rw [List.length_take] at h1
 unfold bb
 simp only [List.length_cons,List.length_nil]
 omega
def Eg (l:List Int):List (Nat × LI):=[(2,{ σ:=Nat,F:=fun k=>([(0,one (.fz .int (l))),(3,one (.int k))],[]),J:=fun k=>k<=l.length/\aj id 64 0 (l.take k)=true,μ:=fun k=>l.length - k })]
def El (st:State) (at_:Int):List (Nat × LI):=[(5,{ σ:=Nat,F:=fun k=>([(1,one (.int (at_))),(2,one (.ptr 0 0)),(5,one (.int (cR st at_.toNat k))),(21,one (.fz (.nm .snap) (st.snaps.drop (at_+1).toNat))),(22,one (.int (st.snaps.drop (at_+1).toNat).length)),(23,one (.int k))],[.box 26 (cellsOf (.nm .state) ((st)))]),J:=fun k=>at_.toNat+1+k<=st.snaps.length/\0<=at_,μ:=fun k=>st.snaps.length - k })]
theorem GN (l:List Int) (r0:Bool):cM aF wu (Eg l) Tryz.f72 [.c (.fz .int (l))] [] [.c (.bool (.atom (r0)))]=((fun (q4:Int)=>(fun (q3:Int)=>(fun (q2:den Sh.int)=>(fun (q1:Int)=>(fun (q0:Int)=>l.length*(8:Nat)<=(140737488355328:Nat)->∃ (s0:Nat),(l=l/\q1=(↑s0:Int))/\(s0<=l.length/\aj id q4 q1 (List.take s0 l)=true)/\∀ (s:Nat),(fun (q7:den Sh.int)=>(fun (q6:Int)=>(fun (q5:Prop)=>s<=l.length/\aj id q4 q1 (List.take s l)=true->(q6<q3->q1<=q6/\q6<q3/\(q5->q1<=q6/\q6<q3)/\(q5->I64 (q6 - q0))/\(q5->q1<=q6 - q0/\q6 - q0<q3)/\(I64 q7->(q5->I64 q7)->(q5->I64 (l.getD (q6 - q0).toNat q2))->(aQ q7 q0 q4=false\/q1<q6/\q7<=l.getD (q6 - q0).toNat q2->false=r0)/\(aQ q7 q0 q4=true/\(q6<=q1\/l.getD (q6 - q0).toNat q2<q7)->I64 (q6+q0)/\∃ (s':Nat),(l=l/\q6+q0=(↑s':Int))/\(s' <= l.length/\aj id q4 q1 (List.take s' l)=true)/\l.length - s' < l.length - s)))/\(q3<=q6->(decide (q0<=q3) && decide (q3<=(8:Int)))=r0)) (aQ q7 q0 q4=true/\q1<q6)) (↑s:Int)) (l.getD s q2)) (1:Int)) (0:Int)) (dflt Sh.int)) (↑l.length:Int)) (64:Int)):=by kernel_rfl
theorem Gi (l:List Int):Sat Tryz.prog (au aF) 72 [.c (.fz .int (l))] [] ⟨[],[.c (.bool (.atom ((cr l))))],none,false⟩:=by
 refine aR iT (Eg l) Tryz.func72 (by decide) (by kernel_rfl) ?_
 rw [GN]
 (repeat' (first | with_reducible refine And.intro ?_ ?_ | with_reducible refine and_imp.2 ?_ | intro))
 all_goals try (first | (first | with_reducible rfl | with_reducible assumption | omega | (refine aq ?_ ?_ <;> omega)) | exact rfl | exact (pS (by with_reducible assumption) (by omega) (And.intro (by with_reducible assumption) (by assumption))) | exact (pA (by omega) (by assumption) (by with_reducible assumption)) | exact (jW (by with_reducible assumption) (by omega)))
 all_goals try (refine ⟨0,?_⟩; (repeat' (first | with_reducible refine And.intro ?_ ?_ | with_reducible refine and_imp.2 ?_ | intro)))
 all_goals try (first | (first | with_reducible rfl | with_reducible assumption | omega | (refine aq ?_ ?_ <;> omega)) | exact rfl | exact (pS (by with_reducible assumption) (by omega) (And.intro (by with_reducible assumption) (by assumption))) | exact (pA (by omega) (by assumption) (by with_reducible assumption)) | exact (jW (by with_reducible assumption) (by omega)))
 all_goals try (refine ⟨‹Nat› + 1,?_⟩; (repeat' (first | with_reducible refine And.intro ?_ ?_ | with_reducible refine and_imp.2 ?_ | intro)))
 all_goals (first | (first | with_reducible rfl | with_reducible assumption | omega | (refine aq ?_ ?_ <;> omega)) | exact rfl | exact (pS (by with_reducible assumption) (by omega) (And.intro (by with_reducible assumption) (by assumption))) | exact (pA (by omega) (by assumption) (by with_reducible assumption)) | exact (jW (by with_reducible assumption) (by omega)))
theorem Cf (x:Int) (r0:Int):cM aF wu [] Tryz.f70 [.c (.int (x))] [] [.c (.int (r0))]=(I64 x->(aQ x (1:Int) (8:Int)=true->(1:Int)=r0)/\(aQ x (1:Int) (8:Int)=false->(aQ x (9:Int) (10:Int)=true->(2:Int)=r0)/\(aQ x (9:Int) (10:Int)=false->(aQ x (11:Int) (12:Int)=true->(3:Int)=r0)/\(aQ x (11:Int) (12:Int)=false->(0:Int)=r0)))):=by kernel_rfl
theorem BX (x:Int):Sat Tryz.prog (au aF) 70 [.c (.int (x))] [] ⟨[],[.c (.int ((bC x)))],none,false⟩:=by
 refine aR iT [] Tryz.func70 (by decide) (by kernel_rfl) ?_
 rw [Cf]
 intro _
 by_cases h:1<=x/\x<=12
 ·rw [DK h]; simp only [aQ,Bool.and_eq_true,Bool.and_eq_false_iff,decide_eq_true_eq,decide_eq_false_iff_not]; (repeat' (first | with_reducible refine And.intro ?_ ?_ | with_reducible refine and_imp.2 ?_ | intro)) <;> (repeat split) <;> omega
 ·rw [BU h]; exact ⟨fun h1=>absurd (lf h1) (by omega),fun _=>⟨fun h1=>absurd (lf h1) (by omega),fun _=>⟨fun h1=>absurd (lf h1) (by omega),fun _=>rfl⟩⟩⟩
theorem zC (n:Int) (used:Bool) (lo:Int) (hi:Int) (r0:Bool):cM aF wu [] Tryz.f71 [.c (.int (n)),.c (.bool (.atom (used))),.c (.int (lo)),.c (.int (hi))] [] [.c (.bool (.atom (r0)))]=(I64 n->I64 lo->I64 hi->(used=false->decide (n=(0:Int))=r0)/\(used=true->aQ n lo hi=r0)):=by kernel_rfl
theorem BC (n:Int) (used:Bool) (lo:Int) (hi:Int):Sat Tryz.prog (au aF) 71 [.c (.int (n)),.c (.bool (.atom (used))),.c (.int (lo)),.c (.int (hi))] [] ⟨[],[.c (.bool (.atom ((eO n used lo hi))))],none,false⟩:=by
 refine aR iT [] Tryz.func71 (by decide) (by kernel_rfl) ?_
 rw [zC]
 grind [eO]
theorem FI (st:State) (at_:Int) (r0:Bool):cM aF wu (El st at_) Tryz.f98 [.agg (cellsOf (.nm .state) st),.c (.int (at_))] [] [.c (.bool (.atom (r0)))]=((fun (q8:Int)=>(fun (q7:Nat)=>(fun (q6:den (Sh.nm NT.snap))=>(fun (q5:Int)=>(fun (q4:Prop)=>(fun (q3:Nat)=>(fun (q2:List Snap)=>(fun (q1:Nat)=>(fun (q0:Prop)=>I64 st.version->I64 st.next->I64 st.keep->I64 st.quota->st.sess.length*(32:Nat)<=q7->st.opens.length*(16:Nat)<=q7->q2.length*(64:Nat)<=q7->I64 at_->(at_<q8\/(↑q2.length:Int)<=at_->false=r0)/\(q4/\at_<(↑q2.length:Int)->I64 (at_+q5)/\q8<=at_+q5/\at_+q5<=(↑q2.length:Int)/\∃ (s0:Nat),(fun (q13:Nat)=>(fun (q12:Nat)=>(fun (q11:den (Sh.nm NT.snap))=>(fun (q10:List (den (Sh.nm NT.snap)))=>(fun (q9:Int)=>(at_=at_/\q8=cR st q3 s0/\q10=q10/\(↑q10.length:Int)=q9/\q8=(↑s0:Int)/\q0)/\(q13+s0<=q12/\q4)/\∀ (s:Nat),(fun (q15:Int)=>(fun (q14:Int)=>q13+s<=q12/\q4->((↑s:Int)<q9->q8<=(↑s:Int)/\(↑s:Int)<(↑q10.length:Int)/\∀ (x:Snap),q10[s]? = some x->I64 x.id->I64 x.set->x.chunks.length*(8:Nat)<=q7->x.tag.b.length<=q7->q4/\at_<(↑q2.length:Int)/\(I64 q11.id->I64 q11.set->q11.chunks.length*(8:Nat)<=q7->q11.tag.b.length<=q7->(x.set=q11.set->I64 (q15+q5)/\I64 q14/\∃ (s':Nat),(at_=at_/\q15+q5=cR st q3 s' /\ q10=q10/\q9=q9/\q14=(↑s':Int)/\q0)/\(q13+s' <= q12/\q4)/\q12 - s' < q12 - s)/\(¬x.set=q11.set->I64 q14/\∃ (s':Nat),(at_=at_/\q15=cR st q3 s' /\ q10=q10/\q9=q9/\q14=(↑s':Int)/\q0)/\(q13+s' <= q12/\q4)/\q12 - s' < q12 - s)))/\(q9<=(↑s:Int)->decide (q15<st.keep)=r0)) ((↑s:Int)+q5)) (cR st q3 s)) (↑(List.drop q1 q2).length:Int)) (List.drop q1 q2)) (q2.getD q3 q6)) q2.length) (q3+(1:Nat)))) (st.version=st.version/\st.next=st.next/\st.keep=st.keep/\st.quota=st.quota/\st.sess=st.sess/\st.opens=st.opens/\q2=q2)) (at_+q5).toNat) st.snaps) at_.toNat) (q8<=at_)) (1:Int)) (dflt (Sh.nm NT.snap))) (140737488355328:Nat)) (0:Int)):=by kernel_rfl
theorem Fg (st:State) (at_:Int):Sat Tryz.prog (au aF) 98 [.agg (cellsOf (.nm .state) st),.c (.int (at_))] [] ⟨[],[.c (.bool (.atom ((fY st at_))))],none,false⟩:=by
 refine aR iT (El st at_) Tryz.func98 (by decide) (by kernel_rfl) ?_
 rw [FI]
 (repeat' (first | with_reducible refine And.intro ?_ ?_ | with_reducible refine and_imp.2 ?_ | intro))
 all_goals try (first | (first | with_reducible rfl | with_reducible assumption | omega | (refine aq ?_ ?_ <;> omega)) | exact tn | exact (nn (by assumption)) | exact (tC (by omega) (by omega)) | exact (mw (by omega) (by omega) (by rw [List.length_drop] at *; omega)) | exact (uy (by rw [show (at_+1).toNat=at_.toNat+1 by omega] at *; assumption) (by with_reducible assumption)) | exact (by have:=‹_<((List.length (List.drop _ _):Nat):Int)›; rw [List.length_drop] at this; omega) | exact (ud (by rw [show (at_+1).toNat=at_.toNat+1 by omega] at *; assumption) (by with_reducible assumption)))
 all_goals try (refine ⟨0,?_⟩; (repeat' (first | with_reducible refine And.intro ?_ ?_ | with_reducible refine and_imp.2 ?_ | intro)))
 all_goals try (first | (first | with_reducible rfl | with_reducible assumption | omega | (refine aq ?_ ?_ <;> omega)) | exact tn | exact (nn (by assumption)) | exact (tC (by omega) (by omega)) | exact (mw (by omega) (by omega) (by rw [List.length_drop] at *; omega)) | exact (uy (by rw [show (at_+1).toNat=at_.toNat+1 by omega] at *; assumption) (by with_reducible assumption)) | exact (by have:=‹_<((List.length (List.drop _ _):Nat):Int)›; rw [List.length_drop] at this; omega) | exact (ud (by rw [show (at_+1).toNat=at_.toNat+1 by omega] at *; assumption) (by with_reducible assumption)))
 all_goals try (refine ⟨‹Nat› + 1,?_⟩; (repeat' (first | with_reducible refine And.intro ?_ ?_ | with_reducible refine and_imp.2 ?_ | intro)))
 all_goals (first | (first | with_reducible rfl | with_reducible assumption | omega | (refine aq ?_ ?_ <;> omega)) | exact tn | exact (nn (by assumption)) | exact (tC (by omega) (by omega)) | exact (mw (by omega) (by omega) (by rw [List.length_drop] at *; omega)) | exact (uy (by rw [show (at_+1).toNat=at_.toNat+1 by omega] at *; assumption) (by with_reducible assumption)) | exact (by have:=‹_<((List.length (List.drop _ _):Nat):Int)›; rw [List.length_drop] at this; omega) | exact (ud (by rw [show (at_+1).toNat=at_.toNat+1 by omega] at *; assumption) (by with_reducible assumption)))
def tO:cC:=(bR 98 (bJ (ah (kT (.nm .state)) (ah (kC cI) aO)) aP fun (st,at_,_) (_)=>⟨[],[.c (.bool (.atom ((fY st at_))))],none,false⟩) (bR 71 (bJ (ah (kC cI) (ah (kC cB) (ah (kC cI) (ah (kC cI) aO)))) aP fun (n,used,lo,hi,_) (_)=>⟨[],[.c (.bool (.atom ((eO n used lo hi))))],none,false⟩) (bR 70 (bJ (ah (kC cI) aO) aP fun (x,_) (_)=>⟨[],[.c (.int ((bC x)))],none,false⟩) (bR 72 (bJ (ah (kC (cL .int)) aO) aP fun (l,_) (_)=>⟨[],[.c (.bool (.atom ((cr l))))],none,false⟩) wu))))
theorem gJ:aX Tryz.prog (au aF) tO:=(az (ay (ab bK (ab (av aw) al)) ao fun (st,at_,_) (_) _=>Fg st at_ ) (az (ay (ab (av aw) (ab (av ox) (ab (av aw) (ab (av aw) al)))) ao fun (n,used,lo,hi,_) (_) _=>BC n used lo hi ) (az (ay (ab (av aw) al) ao fun (x,_) (_) _=>BX x ) (az (ay (ab (av bO) al) ao fun (l,_) (_) _=>Gi l ) iT))))
end Go.Proofs.YtdggohppeeaipaaGreat
namespace Go.Proofs.YtdggohppeeaipaaGreat
open Go.RowKit
theorem tj {α:Type} {l:List α} {k:Nat} {d:α} (h:(k:Int)<l.length):l.set k (l.getD k d)=l:=by
 have hk:k<l.length:=by omega
 rw [List.getD_eq_getElem?_getD,List.getElem?_eq_getElem hk]; exact List.set_getElem_self hk
def pQ (l:List Snap) (k:Nat):Nat:=((List.range k).filter fun (i:Nat)=>decide (0<pB ((i:Int)+1) l)).length
def distF (l:List Snap):Nat:=pQ l 64
theorem Cw {l:List Snap} {k:Nat}:pQ l k<=k:=by
 unfold pQ; refine Nat.le_trans (List.length_filter_le _ _) ?_; simp
def zt (st:State):List (Nat × LI):=[(5,{ σ:=Nat,F:=fun k=>([(1,one (.ptr 0 0)),(2,one (.ptr 1 0)),(18,one (.int st.snaps.length)),(19,one (.int k))],[.box 26 ([.int ((st.version)),.int ((st.next)),.int ((st.keep)),.int ((st.quota)),.own 2,.own 3,.own 4]),.box 26 ([.int ((0)),.int ((0)),.int ((0)),.int ((0)),.em true,.em true,.em true]),.row 44 (.nm .sess) ((st.sess)),.row 77 (.nm .opn) ((st.opens)),.row 59 (.nm .snap) ((st.snaps))]),J:=fun k=>k<=st.snaps.length,μ:=fun k=>st.snaps.length - k })]
theorem FE (st:State) (v:Int) (r0:Int):cM aF tO [] Tryz.f77 [.agg (cellsOf (.nm .state) st),.c (.int (v))] [] [.c (.int (r0))]=((fun (q12:Int)=>(fun (q11:Bool)=>(fun (q10:Bool)=>(fun (q9:Int)=>(fun (q8:Int)=>(fun (q7:Int)=>(fun (q6:Int)=>(fun (q5:Int)=>(fun (q4:Int)=>(fun (q3:Prop)=>(fun (q2:Prop)=>(fun (q1:Prop)=>(fun (q0:Prop)=>I64 st.version->I64 q12->I64 st.keep->I64 q8->st.sess.length*(32:Nat)<=(140737488355328:Nat)->st.opens.length*(16:Nat)<=(140737488355328:Nat)->st.snaps.length*(64:Nat)<=(140737488355328:Nat)->I64 v->(aQ v q6 q9=false->q6=r0)/\(aQ v q6 q9=true->(v<q9->q5<=q7/\q5<=q7/\(((q0/\aQ q8 q4 q4=true)/\q1)/\q2->q6<=q12/\q12<=q7)/\((((q3\/aQ q8 q4 q4=false)\/aj Sess.client q5 q4 st.sess=false\/q11=false)\/aj Opn.set q5 q4 st.opens=false\/q10=false)\/cQ st v=false->(6:Int)=r0)/\((((q0/\aQ q8 q4 q4=true)/\q1)/\q2)/\cQ st v=true->q4=r0))/\(q9<=v->q5<=q7/\q5<=q7/\(((q0/\aQ q8 q4 (64:Int)=true)/\q1)/\q2->q6<=q12/\q12<=q7)/\((((q3\/aQ q8 q4 (64:Int)=false)\/aj Sess.client q5 q4 st.sess=false\/q11=false)\/aj Opn.set q5 q4 st.opens=false\/q10=false)\/cQ st v=false->(6:Int)=r0)/\((((q0/\aQ q8 q4 (64:Int)=true)/\q1)/\q2)/\cQ st v=true->q4=r0)))) ((aQ st.version q6 q9=true/\aQ q12 q6 q7=true)/\aQ st.keep q4 q5=true)) (aj Sess.client q5 q4 st.sess=true/\q11=true)) (aj Opn.set q5 q4 st.opens=true/\q10=true)) ((aQ st.version q6 q9=false\/aQ q12 q6 q7=false)\/aQ st.keep q4 q5=false)) (0:Int)) (8:Int)) (1:Int)) (1048576:Int)) st.quota) (3:Int)) (st.opens.all aN)) (st.sess.all aM)) st.next):=by kernel_rfl
theorem Hc (st:State) (v:Int):Sat Tryz.prog (au aF) 77 [.agg (cellsOf (.nm .state) st),.c (.int (v))] [] ⟨[],[.c (.int ((mayF st v)))],none,false⟩:=by
 refine aR gJ [] Tryz.func77 (by decide) (by kernel_rfl) ?_
 rw [FE]
 (repeat' (first | with_reducible refine And.intro ?_ ?_ | with_reducible refine and_imp.2 ?_ | intro))
 all_goals (first | (first | with_reducible rfl | with_reducible assumption | omega | (refine aq ?_ ?_ <;> omega)) | exact (lf (a:=1) (b:=1048576) (by with_reducible assumption)).1 | exact (lf (a:=1) (b:=1048576) (by with_reducible assumption)).2 | (simp only [mayF,bY,gU,fK]; grind))
theorem Df (c:Command) (v:Int) (r0:Int):cM aF tO [] Tryz.f84 [.agg (cellsOf (.nm .command) c),.c (.int (v))] [] [.c (.int (r0))]=((fun (q0:Int)=>I64 c.kind->I64 c.client->I64 c.seq->I64 c.set->I64 c.id->I64 c.n->c.chunks.length*(8:Nat)<=(140737488355328:Nat)->c.text.b.length<=(140737488355328:Nat)->I64 v->I64 q0->(ku v=false\/q0=(0:Int)->(1:Int)=r0)/\(ku v=true/\¬q0=(0:Int)->(v<q0->(10:Int)=r0)/\(q0<=v->(dr c=false->(1:Int)=r0)/\(dr c=true->(0:Int)=r0)))) (bC c.kind)):=by kernel_rfl
theorem DY (c:Command) (v:Int):Sat Tryz.prog (au aF) 84 [.agg (cellsOf (.nm .command) c),.c (.int (v))] [] ⟨[],[.c (.int ((bh c v)))],none,false⟩:=by
 refine aR gJ [] Tryz.func84 (by decide) (by kernel_rfl) ?_
 rw [Df]
 rw [show ku v=aQ v 1 3 from rfl]
 (repeat' (first | with_reducible refine And.intro ?_ ?_ | with_reducible refine and_imp.2 ?_ | intro))
 all_goals (first | (first | with_reducible rfl | with_reducible assumption | omega | (refine aq ?_ ?_ <;> omega)) | (simp only [bh]; grind))
theorem CM (st:State) (r0:Int) (r1:Int) (r2:Int) (r3:Int) (r4:List Sess) (r5:List Opn) (r6:List Snap):tu aF tO (zt st) Tryz.f32 [.agg (cellsOf (.nm .state) st)] [] [.agg ([.int (r0),.int (r1),.int (r2),.int (r3),.own 0,.own 1,.own 2])] [.row 44 (.nm .sess) (r4),.row 77 (.nm .opn) (r5),.row 59 (.nm .snap) (r6)]=((fun (q4:Int)=>(fun (q3:Nat)=>(fun (q2:den (Sh.nm NT.snap))=>(fun (q1:Prop)=>(fun (q0:List Snap)=>I64 q4->I64 st.next->I64 st.keep->I64 st.quota->st.sess.length*(32:Nat)<=q3->st.opens.length*(16:Nat)<=q3->q0.length*(64:Nat)<=q3->∃ (s0:Nat),(fun (q5:Nat)=>((↑q0.length:Int)=(↑q5:Int)/\(0:Int)=(↑s0:Int)/\q4=q4/\st.next=st.next/\st.keep=st.keep/\st.quota=st.quota/\q1/\q1/\q1/\q1/\st.sess=st.sess/\st.opens=st.opens/\q0=q0)/\s0<=q5/\∀ (s:Nat),(fun (q7:den (Sh.nm NT.snap))=>(fun (q6:Prop)=>s<=q5->((↑s:Int)<(↑q5:Int)->(0:Int)<=(↑s:Int)/\(↑s:Int)<(↑q0.length:Int)/\(0:Int)<=(↑s:Int)/\(↑s:Int)<(↑q0.length:Int)/\(I64 q7.id->I64 q7.set->q6->q7.tag.b.length<=q3->q6->I64 q7.id->I64 q7.set->q6->q7.tag.b.length<=q3->I64 ((↑s:Int)+(1:Int))/\∃ (s':Nat),((↑q5:Int)=(↑q5:Int)/\(↑s:Int)+(1:Int)=(↑s':Int)/\q4=q4/\st.next=st.next/\st.keep=st.keep/\st.quota=st.quota/\q1/\q1/\q1/\q1/\st.sess=st.sess/\st.opens=st.opens/\q0.set s q7=q0)/\s' <= q5/\q5 - s' < q5 - s))/\((↑q5:Int)<=(↑s:Int)->q4=r0/\st.next=r1/\st.keep=r2/\st.quota=r3/\st.sess=r4/\st.opens=r5/\q0=r6)) (q7.chunks.length*(8:Nat)<=q3)) (q0.getD s q2)) q0.length) st.snaps) ((0:Int)=(0:Int))) (dflt (Sh.nm NT.snap))) (140737488355328:Nat)) st.version):=by kernel_rfl
theorem Ds (st:State):Sat Tryz.prog (au aF) 32 [.agg (cellsOf (.nm .state) st)] [] ⟨[],[.agg ([.int ((st.version)),.int ((st.next)),.int ((st.keep)),.int ((st.quota)),.own 0,.own 1,.own 2])],some ([.row 44 (.nm .sess) ((st.sess)),.row 77 (.nm .opn) ((st.opens)),.row 59 (.nm .snap) ((st.snaps))]),true⟩:=by
 refine eA gJ (zt st) Tryz.func32 (by decide) (by kernel_rfl) ?_
 rw [CM]
 (repeat' (first | with_reducible refine And.intro ?_ ?_ | with_reducible refine and_imp.2 ?_ | intro))
 all_goals try (first | (first | with_reducible rfl | with_reducible assumption | omega | (refine aq ?_ ?_ <;> omega)) | exact rfl | exact (tj (by omega)))
 all_goals try (refine ⟨0,?_⟩; (repeat' (first | with_reducible refine And.intro ?_ ?_ | with_reducible refine and_imp.2 ?_ | intro)))
 all_goals try (first | (first | with_reducible rfl | with_reducible assumption | omega | (refine aq ?_ ?_ <;> omega)) | exact rfl | exact (tj (by omega)))
 all_goals try (refine ⟨‹Nat› + 1,?_⟩; (repeat' (first | with_reducible refine And.intro ?_ ?_ | with_reducible refine and_imp.2 ?_ | intro)))
 all_goals (first | (first | with_reducible rfl | with_reducible assumption | omega | (refine aq ?_ ?_ <;> omega)) | exact rfl | exact (tj (by omega)))
theorem wB (x:Snap) (n:Int) (v:Int) (r0:Bool):cM aF (De tO) [] Tryz.f68 [.agg (cellsOf (.nm .snap) x),.c (.int (n)),.c (.int (v))] [] [.c (.bool (.atom (r0)))]=(I64 x.id->I64 x.set->x.chunks.length*(8:Nat)<=(140737488355328:Nat)->x.tag.b.length<=(140737488355328:Nat)->I64 n->I64 v->(cr x.chunks && aQ x.id (1:Int) (eX n (1:Int)) && aQ x.set (1:Int) (8:Int) && (!x.held || decide ((2:Int)<=v)) && decide ((↑x.tag.b.length:Int)<=(16:Int)) && (decide (x.tag=Str.mk []) || decide ((3:Int)<=v)))=r0):=by kernel_rfl
theorem xv (x:Snap) (n:Int) (v:Int):Sat Tryz.prog (au aF) 68 [.agg (cellsOf (.nm .snap) x),.c (.int (n)),.c (.int (v))] [] ⟨[],[.c (.bool (.atom ((dQ n v x))))],none,false⟩:=by
 refine aR (uU gJ) [] Tryz.func68 (by decide) (by kernel_rfl) ?_
 rw [wB]
 intros; rfl
theorem CN (x:Snap) (y:Snap) (r0:Bool):cM aF tO [] Tryz.f106 [.agg (cellsOf (.nm .snap) x),.agg (cellsOf (.nm .snap) y)] [] [.c (.bool (.atom (r0)))]=(I64 x.id->I64 x.set->x.chunks.length*(8:Nat)<=(140737488355328:Nat)->x.tag.b.length<=(140737488355328:Nat)->I64 y.id->I64 y.set->y.chunks.length*(8:Nat)<=(140737488355328:Nat)->y.tag.b.length<=(140737488355328:Nat)->(decide (x.chunks=y.chunks) && decide (x.id=y.id) && decide (x.set=y.set) && x.held == y.held && decide (x.tag=y.tag))=r0):=by kernel_rfl
theorem DH (x:Snap) (y:Snap):Sat Tryz.prog (au aF) 106 [.agg (cellsOf (.nm .snap) x),.agg (cellsOf (.nm .snap) y)] [] ⟨[],[.c (.bool (.atom ((decide (x=y)))))],none,false⟩:=by
 refine aR gJ [] Tryz.func106 (by decide) (by kernel_rfl) ?_
 rw [CN]
 intros; cases x; cases y; simp only [Snap.mk.injEq]; grind
def sI:cC:=(bR 106 (bJ (ah (kT (.nm .snap)) (ah (kT (.nm .snap)) aO)) aP fun (x,y,_) (_)=>⟨[],[.c (.bool (.atom ((decide (x=y)))))],none,false⟩) (bR 68 (bJ (ah (kT (.nm .snap)) (ah (kC cI) (ah (kC cI) aO))) aP fun (x,n,v,_) (_)=>⟨[],[.c (.bool (.atom ((dQ n v x))))],none,false⟩) (bR 32 (bJ (ah (kT (.nm .state)) aO) aP fun (st,_) (_)=>⟨[],[.agg ([.int ((st.version)),.int ((st.next)),.int ((st.keep)),.int ((st.quota)),.own 0,.own 1,.own 2])],some ([.row 44 (.nm .sess) ((st.sess)),.row 77 (.nm .opn) ((st.opens)),.row 59 (.nm .snap) ((st.snaps))]),true⟩) (bR 84 (bJ (ah (kT (.nm .command)) (ah (kC cI) aO)) aP fun (c,v,_) (_)=>⟨[],[.c (.int ((bh c v)))],none,false⟩) (bR 77 (bJ (ah (kT (.nm .state)) (ah (kC cI) aO)) aP fun (st,v,_) (_)=>⟨[],[.c (.int ((mayF st v)))],none,false⟩) tO)))))
theorem ju:aX Tryz.prog (au aF) sI:=(az (ay (ab bK (ab bK al)) ao fun (x,y,_) (_) _=>DH x y ) (az (ay (ab bK (ab (av aw) (ab (av aw) al))) ao fun (x,n,v,_) (_) _=>xv x n v ) (az (ay (ab bK al) ao fun (st,_) (_) _=>Ds st ) (az (ay (ab bK (ab (av aw) al)) ao fun (c,v,_) (_) _=>DY c v ) (az (ay (ab bK (ab (av aw) al)) ao fun (st,v,_) (_) _=>Hc st v ) gJ)))))
end Go.Proofs.YtdggohppeeaipaaGreat
namespace Go.Proofs.YtdggohppeeaipaaGreat
open Go.RowKit
def dx (s:State):State:={ s with sess:=s.sess.take 20,opens:=s.opens.take 20,snaps:=(s.snaps.take 20).map fun x=>{ x with chunks:=x.chunks.take 12,tag:=x.tag.cut 0 40 } }
def iA (l:List Snap) (id:Int) (k:Nat):List Int:=((List.range k).filter fun (i:Nat)=>decide (0<pB ((i:Int)+1) l) && decide (pB ((i:Int)+1) (bb id l)=0)).map fun (i:Nat)=>(i:Int)+1
def cH (xs:List Int) (l:List Int):List Int:=l.foldl (fun xs n=>if 1<=n/\n<=64 then xs.set n.toNat (xs.getD n.toNat 0+1) else xs) xs
theorem yH {a b:List Snap} {k:Nat} (h:a.take k=b.take k) (e:decide (a.getD k (dflt (.nm .snap))=b.getD k (dflt (.nm .snap)))=true) (hk:(k:Int)<a.length) (hb:(k:Int)<b.length):a.take (k+1)=b.take (k+1):=uC h (by omega) (by omega) (of_decide_eq_true e)
theorem xT {a b:List Snap} {k:Nat} (e:decide (a.getD k (dflt (.nm .snap))=b.getD k (dflt (.nm .snap)))=false) (_:(k:Int)<a.length) (_:(k:Int)<b.length):false=decide (a=b):=by
 symm; apply decide_eq_false; rintro rfl; simp at e
theorem Fa {l:List Snap} {id:Int} (h:nch l<=1048576):nch (bb id l)<=1048576:=by
 refine Nat.le_trans ?_ h
 unfold nch bb
 induction l with
 | nil=>exact Nat.le_refl _
 | cons x l ih=>
  have hl:(l.flatMap Snap.chunks).length<=1048576:=by unfold nch at h; rw [List.flatMap_cons,List.length_append] at h; omega
  have:=ih hl
  rw [List.filter_cons,List.flatMap_cons,List.length_append]
  split
  ·rw [List.flatMap_cons,List.length_append]; omega
  ·omega
def fu (l:List Snap) (id:Int):List Int:=iA l id 64
theorem vn {st:State} {k:Nat} {x:Snap} (hx:st.snaps[k]? = some x) (h:(k:Int)<20):(dx st).snaps[k]? = some { x with chunks:=x.chunks.take 12,tag:=x.tag.cut 0 40 }:=by
 show (List.map _ (st.snaps.take 20))[k]? = _
 rw [List.getElem?_map,List.getElem?_take_of_lt (by omega),hx]; rfl
theorem EU {st:State} {k:Nat} {x:Snap} (hx:st.snaps[k]? = some x) (h:(k:Int)<20) (_:12<(x.chunks.length:Int)) (_:40<(x.tag.b.length:Int)):(dx st).snaps.take k++[Snap.mk x.id x.set (x.chunks.take 12) x.held ⟨x.tag.b.take 40⟩]=(dx st).snaps.take (k+1):=by
 rw [aD (vn hx h)]; rfl
theorem GD {st:State} {k:Nat} {x:Snap} (hx:st.snaps[k]? = some x) (h:(k:Int)<20) (_:12<(x.chunks.length:Int)) (h2:(x.tag.b.length:Int)<=40):(dx st).snaps.take k++[Snap.mk x.id x.set (x.chunks.take 12) x.held x.tag]=(dx st).snaps.take (k+1):=by
 rw [aD (vn hx h),show x.tag.cut 0 40=x.tag from (na h2).symm]
theorem Fp {st:State} {k:Nat} {x:Snap} (hx:st.snaps[k]? = some x) (h:(k:Int)<20) (h1:(x.chunks.length:Int)<=12) (_:40<(x.tag.b.length:Int)):(dx st).snaps.take k++[Snap.mk x.id x.set x.chunks x.held ⟨x.tag.b.take 40⟩]=(dx st).snaps.take (k+1):=by
 rw [aD (vn hx h),show x.chunks.take 12=x.chunks from List.take_of_length_le (by omega)]; rfl
theorem Fm {st:State} {k:Nat} {x:Snap} (hx:st.snaps[k]? = some x) (h:(k:Int)<20) (h1:(x.chunks.length:Int)<=12) (h2:(x.tag.b.length:Int)<=40):(dx st).snaps.take k++[x]=(dx st).snaps.take (k+1):=by
 rw [aD (vn hx h),show x.chunks.take 12=x.chunks from List.take_of_length_le (by omega),show x.tag.cut 0 40=x.tag from (na h2).symm]
theorem HS {st:State}:(dx st).snaps.length=min 20 st.snaps.length:=by
 show (List.map _ (st.snaps.take 20)).length=_
 rw [List.length_map,List.length_take]
theorem tZ {st:State} {k:Nat} {y:Snap} (h:(k:Int)<20):(((dx st).snaps.take k).length+[y].length)*64<=140737488355328:=by
 rw [List.length_take]; simp only [List.length_cons,List.length_nil]; omega
theorem Ab {st:State} {k:Nat} (h:(k:Int)<20) (h2:(k:Int)<st.snaps.length):k+1<=(dx st).snaps.length:=by rw [HS]; omega
theorem zy {st:State} {k:Nat} (h:(st.snaps.length:Int)<=k\/20<=(k:Int)):(dx st).snaps.length<=k:=by rw [HS]; omega
def oG (xs l:List Int):Prop:=∀ i,0<=xs.getD i 0/\xs.getD i 0+l.length<=4611686018427387904
theorem rB {xs:List Int} {i j:Nat} {v:Int}:(xs.set j v).getD i 0=if j=i/\j<xs.length then v else xs.getD i 0:=by
 rw [List.getD_eq_getElem?_getD,List.getElem?_set,List.getD_eq_getElem?_getD]
 by_cases h:j=i
 ·subst h
  by_cases h2:j<xs.length
  ·simp [h2]
  ·simp [h2]
 ·simp [h]
theorem tX:∀ (l xs:List Int) (i:Nat),xs.getD i 0<=(cH xs l).getD i 0/\(cH xs l).getD i 0<=xs.getD i 0+l.length
 | [],xs,i=>by simp [cH]
 | n :: l,xs,i=>by
  have h:=tX l (if 1<=n/\n<=64 then xs.set n.toNat (xs.getD n.toNat 0+1) else xs) i
  have e:cH xs (n :: l)=cH (if 1<=n/\n<=64 then xs.set n.toNat (xs.getD n.toNat 0+1) else xs) l:=rfl
  rw [e]
  have h2:xs.getD i 0<=(if 1<=n/\n<=64 then xs.set n.toNat (xs.getD n.toNat 0+1) else xs).getD i 0/\(if 1<=n/\n<=64 then xs.set n.toNat (xs.getD n.toNat 0+1) else xs).getD i 0<=xs.getD i 0+1:=by
   split
   ·rw [rB]; split
    ·rename_i h3; rw [h3.1]; omega
    ·omega
   ·omega
  rw [List.length_cons]; omega
theorem su {xs l:List Int} {k:Nat} {n:Int} (hx:l[k]? = some n):cH xs (l.take (k+1))=if 1<=n/\n<=64 then (cH xs (l.take k)).set n.toNat ((cH xs (l.take k)).getD n.toNat 0+1) else cH xs (l.take k):=by
 rw [aD hx,cH,List.foldl_append]; rfl
theorem ym {xs l:List Int} {k:Nat} {n:Int} (hx:l[k]? = some n) (h:1<=n/\n<=64):(cH xs (l.take k)).set n.toNat ((cH xs (l.take k)).getD n.toNat (dflt .int)+1)=cH xs (l.take (k+1)):=by rw [su hx,if_pos h]; rfl
theorem zV {xs l:List Int} {k:Nat} {n:Int} (hx:l[k]? = some n) (h:¬ (1<=n/\n<=64)):cH xs (l.take k)=cH xs (l.take (k+1)):=by rw [su hx,if_neg h]
theorem zE {xs l:List Int} {k:Nat} {n:Int} (h:oG xs l):I64 ((cH xs (l.take k)).getD n.toNat (dflt .int)+1):=by
 have h1:=tX (l.take k) xs n.toNat
 have h2:=h n.toNat
 rw [List.length_take] at h1
 show I64 ((cH xs (l.take k)).getD n.toNat 0+1)
 constructor <;> omega
theorem GY {l:List Snap} {id:Int} {k:Nat} {n:Int} (h:k<=64):((iA l id k).length+[n].length)*8<=140737488355328:=by
 unfold iA
 have:=List.length_filter_le (fun (i:Nat)=>decide (0<pB ((i:Int)+1) l) && decide (pB ((i:Int)+1) (bb id l)=0)) (List.range k)
 rw [List.length_range] at this
 rw [List.length_map]; simp only [List.length_cons,List.length_nil]; omega
def nP (a:List Snap) (b:List Snap):List (Nat × LI):=[(4,{ σ:=Nat,F:=fun k=>([(0,one (.fz (.nm .snap) (a))),(1,one (.fz (.nm .snap) (b))),(5,one (.int k))],[]),J:=fun k=>k<=a.length/\a.length=b.length/\a.take k=b.take k,μ:=fun k=>a.length - k })]
def HX (l:List Int) (xs:List Int):List (Nat × LI):=[(1,{ σ:=Nat,F:=fun k=>([(0,one (.ptr 0 0)),(6,one (.fz .int (l))),(7,one (.int (l).length)),(8,one (.int k))],[.arr 108 .int 65 ((cH xs (l.take k)))]),J:=fun k=>k<=l.length,μ:=fun k=>(l).length - k })]
theorem FL (st:State) (c:Command) (r0:Int):cM aF sI [] Tryz.f33 [.agg (cellsOf (.nm .state) st),.agg (cellsOf (.nm .command) c)] [] [.c (.int (r0))]=((fun (q0:Int)=>I64 q0->I64 st.next->I64 st.keep->I64 st.quota->st.sess.length*(32:Nat)<=(140737488355328:Nat)->st.opens.length*(16:Nat)<=(140737488355328:Nat)->st.snaps.length*(64:Nat)<=(140737488355328:Nat)->I64 c.kind->I64 c.client->I64 c.seq->I64 c.set->I64 c.id->I64 c.n->c.chunks.length*(8:Nat)<=(140737488355328:Nat)->c.text.b.length<=(140737488355328:Nat)->I64 (mayF st q0)->(¬mayF st q0=(0:Int)->(1:Int)=r0)/\(mayF st q0=(0:Int)->I64 (bh c q0)->bh c q0=r0)) st.version):=by kernel_rfl
theorem GM (st:State) (c:Command):Sat Tryz.prog (au aF) 33 [.agg (cellsOf (.nm .state) st),.agg (cellsOf (.nm .command) c)] [] ⟨[],[.c (.int ((if mayF st st.version=0 then bh c st.version else 1)))],none,false⟩:=by
 refine aR ju [] Tryz.func33 (by decide) (by kernel_rfl) ?_
 rw [FL]
 grind
theorem tW (a:List Snap) (b:List Snap) (r0:Bool):cM aF sI (nP a b) Tryz.f66 [.c (.fz (.nm .snap) (a)),.c (.fz (.nm .snap) (b))] [] [.c (.bool (.atom (r0)))]=((fun (q3:Nat)=>(fun (q2:Nat)=>(fun (q1:Int)=>(fun (q0:den (Sh.nm NT.snap))=>a.length*(64:Nat)<=q3->b.length*(64:Nat)<=q3->(¬q1=(↑b.length:Int)->false=r0)/\(q1=(↑b.length:Int)->∃ (s0:Nat),(a=a/\b=b/\(0:Int)=(↑s0:Int))/\(s0<=q2/\q2=b.length/\List.take s0 a=List.take s0 b)/\∀ (s:Nat),(fun (q5:den (Sh.nm NT.snap))=>(fun (q4:den (Sh.nm NT.snap))=>s<=q2/\q2=b.length/\List.take s a=List.take s b->((↑s:Int)<q1->(0:Int)<=(↑s:Int)/\(↑s:Int)<q1/\(0:Int)<=(↑s:Int)/\(↑s:Int)<(↑b.length:Int)/\(I64 q4.id->I64 q4.set->q4.chunks.length*(8:Nat)<=q3->q4.tag.b.length<=q3->I64 q5.id->I64 q5.set->q5.chunks.length*(8:Nat)<=q3->q5.tag.b.length<=q3->(decide (q4=q5)=false->false=r0)/\(decide (q4=q5)=true->I64 ((↑s:Int)+(1:Int))/\∃ (s':Nat),(a=a/\b=b/\(↑s:Int)+(1:Int)=(↑s':Int))/\(s' <= q2/\q2=b.length/\List.take s' a=List.take s' b)/\q2 - s' < q2 - s)))/\(q1<=(↑s:Int)->true=r0)) (a.getD s q0)) (b.getD s q0))) (dflt (Sh.nm NT.snap))) (↑a.length:Int)) a.length) (140737488355328:Nat)):=by kernel_rfl
theorem ui (a:List Snap) (b:List Snap):Sat Tryz.prog (au aF) 66 [.c (.fz (.nm .snap) (a)),.c (.fz (.nm .snap) (b))] [] ⟨[],[.c (.bool (.atom ((decide (a=b)))))],none,false⟩:=by
 refine aR ju (nP a b) Tryz.func66 (by decide) (by kernel_rfl) ?_
 rw [tW]
 (repeat' (first | with_reducible refine And.intro ?_ ?_ | with_reducible refine and_imp.2 ?_ | intro))
 all_goals try (first | (first | with_reducible rfl | with_reducible assumption | omega | (refine aq ?_ ?_ <;> omega)) | exact rfl | exact (uh (by with_reducible assumption)) | exact (yH (by with_reducible assumption) (by with_reducible assumption) (by with_reducible assumption) (by omega)) | exact (xT (by with_reducible assumption) (by omega) (by omega)) | exact (ma (by omega) (by with_reducible assumption) (by omega)))
 all_goals try (refine ⟨0,?_⟩; (repeat' (first | with_reducible refine And.intro ?_ ?_ | with_reducible refine and_imp.2 ?_ | intro)))
 all_goals try (first | (first | with_reducible rfl | with_reducible assumption | omega | (refine aq ?_ ?_ <;> omega)) | exact rfl | exact (uh (by with_reducible assumption)) | exact (yH (by with_reducible assumption) (by with_reducible assumption) (by with_reducible assumption) (by omega)) | exact (xT (by with_reducible assumption) (by omega) (by omega)) | exact (ma (by omega) (by with_reducible assumption) (by omega)))
 all_goals try (refine ⟨‹Nat› + 1,?_⟩; (repeat' (first | with_reducible refine And.intro ?_ ?_ | with_reducible refine and_imp.2 ?_ | intro)))
 all_goals (first | (first | with_reducible rfl | with_reducible assumption | omega | (refine aq ?_ ?_ <;> omega)) | exact rfl | exact (uh (by with_reducible assumption)) | exact (yH (by with_reducible assumption) (by with_reducible assumption) (by with_reducible assumption) (by omega)) | exact (xT (by with_reducible assumption) (by omega) (by omega)) | exact (ma (by omega) (by with_reducible assumption) (by omega)))
theorem IC (l:List Int) (xs:List Int) (r0:List Int):oq aF sI (HX l xs) Tryz.f126 [.c (.ptr 0 0),.c (.fz .int (l))] [.arr 108 .int 65 (xs)] [] [.arr 108 .int 65 (r0)]=((fun (q1:Int)=>(fun (q0:Nat)=>l.length*(8:Nat)<=(140737488355328:Nat)->∃ (s0:Nat),(fun (q2:Int)=>(l=l/\(↑l.length:Int)=q2/\(0:Int)=(↑s0:Int)/\xs=cH xs (List.take s0 l))/\s0<=q0/\∀ (s:Nat),(fun (q4:Int)=>(fun (q3:List Int)=>s<=q0->((↑s:Int)<q2->(0:Int)<=(↑s:Int)/\(↑s:Int)<(↑l.length:Int)/\∀ (x:Int),(fun (q5:den Sh.int)=>l[s]? = some x->I64 x->(q1<=x/\x<=(64:Int)->(0:Int)<=x/\x<(↑(65:Nat):Int)/\x.toNat<(65:Nat)/\I64 (q5+q1)/\(0:Int)<=x/\x<(↑(65:Nat):Int)/\(I64 q5->x.toNat<(65:Nat)/\I64 q4/\∃ (s':Nat),(l=l/\q2=q2/\q4=(↑s':Int)/\q3.set x.toNat (q5+q1)=cH xs (List.take s' l))/\s' <= q0/\q0 - s' < q0 - s))/\(x<q1\/(64:Int)<x->I64 q4/\∃ (s':Nat),(l=l/\q2=q2/\q4=(↑s':Int)/\q3=cH xs (List.take s' l))/\s' <= q0/\q0 - s' < q0 - s)) (q3.getD x.toNat (dflt Sh.int)))/\(q2<=(↑s:Int)->q3=r0)) (cH xs (List.take s l))) ((↑s:Int)+q1)) (↑q0:Int)) l.length) (1:Int)):=by kernel_rfl
theorem Ic (l:List Int) (xs:List Int) (h0:oG xs l):Sat Tryz.prog (au aF) 126 [.c (.ptr 0 0),.c (.fz .int (l))] [.arr 108 .int 65 (xs)] ⟨[oG xs l],[],some ([.arr 108 .int 65 ((cH xs l))]),false⟩:=by
 refine dz ju (HX l xs) Tryz.func126 (by decide) (by kernel_rfl) ?_
 rw [IC]
 (repeat' (first | with_reducible refine And.intro ?_ ?_ | with_reducible refine and_imp.2 ?_ | intro))
 all_goals try (first | (first | with_reducible rfl | with_reducible assumption | omega | (refine aq ?_ ?_ <;> omega)) | exact rfl | exact (ym (by with_reducible assumption) (by constructor <;> omega)) | exact (zV (by with_reducible assumption) (by omega)) | exact (by rw [List.take_of_length_le (by omega)]) | exact (zE (by with_reducible assumption)))
 all_goals try (refine ⟨0,?_⟩; (repeat' (first | with_reducible refine And.intro ?_ ?_ | with_reducible refine and_imp.2 ?_ | intro)))
 all_goals try (first | (first | with_reducible rfl | with_reducible assumption | omega | (refine aq ?_ ?_ <;> omega)) | exact rfl | exact (ym (by with_reducible assumption) (by constructor <;> omega)) | exact (zV (by with_reducible assumption) (by omega)) | exact (by rw [List.take_of_length_le (by omega)]) | exact (zE (by with_reducible assumption)))
 all_goals try (refine ⟨‹Nat› + 1,?_⟩; (repeat' (first | with_reducible refine And.intro ?_ ?_ | with_reducible refine and_imp.2 ?_ | intro)))
 all_goals (first | (first | with_reducible rfl | with_reducible assumption | omega | (refine aq ?_ ?_ <;> omega)) | exact rfl | exact (ym (by with_reducible assumption) (by constructor <;> omega)) | exact (zV (by with_reducible assumption) (by omega)) | exact (by rw [List.take_of_length_le (by omega)]) | exact (zE (by with_reducible assumption)))
def As:cC:=(bR 126 (bJ (ah (kC (bU 0 0)) (ah (kC (cL .int)) aO)) (aA (oQ 108 .int 65) aP) fun (_,l,_) (xs,_)=>⟨[oG xs l],[],some ([.arr 108 .int 65 ((cH xs l))]),false⟩) (bR 66 (bJ (ah (kC (cL (.nm .snap))) (ah (kC (cL (.nm .snap))) aO)) aP fun (a,b,_) (_)=>⟨[],[.c (.bool (.atom ((decide (a=b)))))],none,false⟩) (bR 33 (bJ (ah (kT (.nm .state)) (ah (kT (.nm .command)) aO)) aP fun (st,c,_) (_)=>⟨[],[.c (.int ((if mayF st st.version=0 then bh c st.version else 1)))],none,false⟩) sI)))
theorem qH:aX Tryz.prog (au aF) As:=(az (ay (ab (av aJ) (ab (av bO) al)) (ag fv ao) fun (_,l,_) (xs,_) hp=>Ic l xs (eP hp)) (az (ay (ab (av bO) (ab (av bO) al)) ao fun (a,b,_) (_) _=>ui a b ) (az (ay (ab bK (ab bK al)) ao fun (st,c,_) (_) _=>GM st c ) ju)))
end Go.Proofs.YtdggohppeeaipaaGreat
