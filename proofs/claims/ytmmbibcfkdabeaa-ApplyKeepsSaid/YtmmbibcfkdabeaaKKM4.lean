/- What leads to the law, part 4. Conditions: each lemma's own. -/
import Derived.Test.YtmmbibcfkdabeaaKKM3
set_option linter.unusedVariables false
set_option linter.unusedSimpArgs false
namespace Go.Proofs.Ytmmbibcfkdabeaa
open Go.RowKit
theorem mB (z:Array Value) (n:Nat):(Builtin.zeroCells z n).toList.length=n*z.size:=by rw [Array.length_toList,size_zeroCells]
theorem a_ {w:World} {g:Nat} {o:Obj} (h:w.heap[g]? = some o):g<w.heap.size:=(Array.getElem?_eq_some_iff.1 h).1
theorem cg:(Try.prog.info? 42).map (·.size)=some 4:=by kernel_rfl
theorem zT:(Try.prog.info? 42).map (fun i=>(i.zero,i.size,i.bytes))=some (some (.agg #[.int .i64 0,.int .i64 0,.int .i64 0,.int .i64 0]),4,32):=by kernel_rfl
set_option maxRecDepth 100000 in
set_option maxHeartbeats 1000000 in
theorem rz {w:World} {n c vc:Nat} {A:Option Addr} {B:Option Addr} {φ:Value->World->Prop} (happ:∀ (F:Fr) (x y:Operand) (ty:TypeId),ev F x=some (.slice A n c)->ev F y=some (.slice B 1 vc)->∃ v2 w2,aL Try.prog 95 F w (.call { callee:=.builtin .append,args:=#[x,y],argTypes:=#[22,22] }) ty v2 w2/\φ v2 w2) :
  gU Try.prog 31 [.slice A n c,.int .i64 (n:Int),.slice B 1 vc].toArray w φ:=by
 refine gU.enter Try.func31 rfl rfl rfl rfl ?_
 refine WC.seq ?_
 refine WC.region ?_
 refine WO.v (R.assign rfl) rfl ?_
 refine WO.nil ?_
 refine WX.next ?_
 refine WC.seq ?_
 refine WC.region ?_
 refine WO.v (R.move rfl) rfl ?_
 refine WO.v (R.move rfl) rfl ?_
 refine WO.v (R.cd rfl rfl Try.underlying22 cg rfl (by omega)) rfl ?_
 refine WO.nil ?_
 refine WX.next ?_
 refine WC.seq ?_
 refine WC.region ?_
 refine WO.v (R.move rfl) rfl ?_
 refine WO.v (R.len rfl Try.underlying22) rfl ?_
 refine WO.v (R.assign rfl) rfl ?_
 refine WO.nil ?_
 refine WX.next ?_
 refine WC.seq ?_
 refine WC.seq ?_
 refine WC.region ?_
 refine WO.v (R.move rfl) rfl ?_
 refine WO.v (R.eql rfl rfl) rfl ?_
 refine WO.nil ?_
 refine WX.next ?_
 refine WC.cond rfl (fun q=>absurd (of_decide_eq_true q) (by omega)) (fun _=>?_)
 refine WC.skip ?_
 refine WX.next ?_
 refine WC.seq ?_
 refine WC.region ?_
 refine WO.v (R.move rfl) rfl ?_
 refine WO.v (R.len rfl Try.underlying22) rfl ?_
 refine WO.v (R.assign rfl) rfl ?_
 refine WO.nil ?_
 refine WX.next ?_
 refine WC.seq ?_
 refine WC.seq ?_
 refine WC.region ?_
 refine WO.v (R.move rfl) rfl ?_
 refine WO.v (R.move rfl) rfl ?_
 refine WO.v (R.eql rfl rfl) rfl ?_
 refine WO.nil ?_
 refine WX.next ?_
 refine WC.cond rfl (fun _=>?_) (fun q=>absurd rfl (of_decide_eq_false q))
 refine WC.seq ?_
 refine WC.region ?_
 refine WO.v (R.move rfl) rfl ?_
 refine WO.v (R.move rfl) rfl ?_
 refine WO.ve (happ _ _ _ _ rfl rfl) rfl fun v2 w2 hv2=>?_
 refine WO.v (R.assign rfl) rfl ?_
 refine WO.nil ?_
 refine WX.next ?_
 refine WC.ret ?_
 refine WX.gK ?_
 refine WX.tp rfl rfl ?_
 exact hv2
set_option maxRecDepth 100000 in
set_option maxHeartbeats 1000000 in
theorem qf {w W1:World} {g b n i c vc G:Nat} {ad:Addr} {cur vs ds:List Value} (hi:i<n) (hnc:n<=c) (hc:c<n+1) (hcm:c<=maxLen) (hG:n+1<=G) (hGm:G<=maxLen)
  (happ:∀ (F:Fr) (x y:Operand) (ty:TypeId),ev F x=some (.slice (some ⟨g,0*4,none⟩) i c)->ev F y=some (.int .i64 ((n+1 - i:Nat):Int))->aL Try.prog 95 F w (.call { callee:=.builtin .append,args:=#[x,y],argTypes:=#[22,3] }) ty (.slice (some ⟨b,0,none⟩) (n+1) G) W1)
  (hrow:W1.heap[b]? = some (.cells cur.toArray 42 (0,0))) (hcur:(n+1)*4<=cur.length) (hv:CellsAt W1 ad vs) (hvl:vs.length=4) (hd:CellsAt W1 ⟨g,i*4,none⟩ ds) (hgb:g≠b) (hgl:g<W1.heap.size) (hdl:ds.length=(n - i)*4)
  (h1v:∀ u ∈ vs,u.oneCell' = true) (h1d:∀ u ∈ ds,u.oneCell' = true) :
  gU Try.prog 31 [.slice (some ⟨g,0,none⟩) n c,.int .i64 (i:Int),.slice (some ad) 1 vc].toArray w fun v w'=>v = .slice (some ⟨b,0,none⟩) (n+1) G/\∃ w1,Kp [] (W1.setRow b (cur.take (i*4)++vs++cur.drop (i*4+vs.length)).toArray) w1/\w' = w1.setRow b ((cur.take (i*4)++vs++cur.drop (i*4+vs.length)).take ((i+1)*4)++ds++(cur.take (i*4)++vs++cur.drop (i*4+vs.length)).drop ((i+1)*4+ds.length)).toArray:=by
 have hGm:G<=9223372036854775807:=hGm
 have hcm:c<=9223372036854775807:=hcm
 have hn1:vs.length=Nat.min 1 (n+1 - i)*4:=by rw [show Nat.min 1 (n+1 - i)=1 from Nat.min_eq_left (by omega),Nat.one_mul]; exact hvl
 have hn2:ds.length=Nat.min (n - i) (n+1 - (i+1))*4:=by rw [show Nat.min (n - i) (n+1 - (i+1))=n - i from Nat.min_eq_left (by omega)]; exact hdl
 refine gU.enter Try.func31 rfl rfl rfl rfl ?_
 refine WC.seq ?_
 refine WC.region ?_
 refine WO.v (R.assign rfl) rfl ?_
 refine WO.nil ?_
 refine WX.next ?_
 refine WC.seq ?_
 refine WC.region ?_
 refine WO.v (R.move rfl) rfl ?_
 refine WO.v (R.move rfl) rfl ?_
 refine WO.v (R.cd rfl rfl Try.underlying22 cg rfl (by omega)) rfl ?_
 refine WO.nil ?_
 refine WX.next ?_
 refine WC.seq ?_
 refine WC.region ?_
 refine WO.v (R.move rfl) rfl ?_
 refine WO.v (R.len rfl Try.underlying22) rfl ?_
 refine WO.v (R.assign rfl) rfl ?_
 refine WO.nil ?_
 refine WX.next ?_
 refine WC.seq ?_
 refine WC.seq ?_
 refine WC.region ?_
 refine WO.v (R.move rfl) rfl ?_
 refine WO.v (R.eql rfl rfl) rfl ?_
 refine WO.nil ?_
 refine WX.next ?_
 refine WC.cond rfl (fun q=>absurd (of_decide_eq_true q) (by omega)) (fun _=>?_)
 refine WC.skip ?_
 refine WX.next ?_
 refine WC.seq ?_
 refine WC.region ?_
 refine WO.v (R.move rfl) rfl ?_
 refine WO.v (R.len rfl Try.underlying22) rfl ?_
 refine WO.v (R.assign rfl) rfl ?_
 refine WO.nil ?_
 refine WX.next ?_
 refine WC.seq ?_
 refine WC.seq ?_
 refine WC.region ?_
 refine WO.v (R.move rfl) rfl ?_
 refine WO.v (R.move rfl) rfl ?_
 refine WO.v (R.eql rfl rfl) rfl ?_
 refine WO.nil ?_
 refine WX.next ?_
 refine WC.cond rfl (fun q=>absurd (of_decide_eq_true q) (by omega)) (fun _=>?_)
 refine WC.skip ?_
 refine WX.next ?_
 refine WC.seq ?_
 refine WC.seq ?_
 refine WC.region ?_
 refine WO.v (R.move rfl) rfl ?_
 refine WO.v (R.move rfl) rfl ?_
 refine WO.v (R.jm rfl rfl (by omega)) rfl ?_
 refine WO.v (R.move rfl) rfl ?_
 refine WO.v (R.Cn rfl Try.underlying22) rfl ?_
 refine WO.v (R.gtr rfl rfl) rfl ?_
 refine WO.nil ?_
 refine WX.next ?_
 refine WC.cond rfl (fun _=>?_) (fun q=>absurd (by omega) (of_decide_eq_false q))
 refine WC.seq ?_
 refine WC.region ?_
 refine WO.v (R.move rfl) rfl ?_
 refine WO.v (R.move rfl) rfl ?_
 refine WO.v (R.jN rfl rfl Try.underlying22 cg (dw (i:=0) (by omega)) (by omega)) rfl ?_
 refine WO.v (R.move rfl) rfl ?_
 refine WO.v (R.move rfl) rfl ?_
 refine WO.v (R.jm rfl rfl (by omega)) rfl ?_
 refine WO.v (R.move rfl) rfl ?_
 refine WO.v (R.GP rfl rfl (by omega) (by omega)) rfl ?_
 refine WO.v (happ _ _ _ _ rfl rfl) rfl ?_
 refine WO.v (R.assign rfl) rfl ?_
 refine WO.nil ?_
 refine WX.next ?_
 refine WC.seq ?_
 refine WC.region ?_
 refine WO.v (R.move rfl) rfl ?_
 refine WO.v (R.move rfl) rfl ?_
 refine WO.v (R.cd rfl rfl Try.underlying22 cg (dw (by omega)) (by omega)) rfl ?_
 refine WO.v (R.move rfl) rfl ?_
 refine WO.v (R.kx rfl rfl Try.underlying22 cg hrow hn1 hv (by omega) h1v) rfl ?_
 refine WO.nil ?_
 refine WX.next ?_
 refine WC.seq ?_
 refine WC.nK gf [.ex [] (.slice (some ⟨b,0,none⟩) (n+1) G),.ex [] (.int .i64 ((i:Nat):Int)),.ex [] (.int .i64 ((1:Nat):Int)),.ex [1,2] (.int .i64 ((i+1:Nat):Int)),.ex [0,3] (.slice (some ⟨b,(i+1)*4,none⟩) (n+1 - (i+1)) (G - (i+1))),.ex [] (.slice (some ⟨g,0,none⟩) n c),.ex [] (.int .i64 ((i:Nat):Int)),.ex [5,6] (.slice (some ⟨g,i*4,none⟩) (n - i) (c - i))] 8 (by kernel_rfl) ⟨fun _ _ _ h _=>h,fun _ _ _ h _=>h,fun _ _ _ h _=>h,fun _ _ _ h _=>h,fun _ _ _ h _=>h,fun _ _ _ h _=>h,fun _ _ _ h _=>h,fun _ _ _ h _=>h,trivial⟩ ⟨?_,?_,?_,?_,?_,?_,?_,?_,trivial⟩ ?_
 ·rintro vs wd kd ⟨-⟩
  refine WO.bt (fr':=[(9,.slice (some ⟨b,0,none⟩) (n+1) G)]) ⟨⟨_,rfl,rfl⟩,trivial⟩ ?_
  refine WO.v (R.move rfl) rfl ?_
  refine WO.nil ?_
  exact WX.aH rfl rfl (Kp.refl _)
 ·rintro vs wd kd ⟨-⟩
  refine WO.bt (fr':=[(1,.int .i64 ((i:Nat):Int))]) ⟨⟨_,rfl,rfl⟩,trivial⟩ ?_
  refine WO.v (R.move rfl) rfl ?_
  refine WO.nil ?_
  exact WX.aH rfl rfl (Kp.refl _)
 ·rintro vs wd kd ⟨-⟩
  refine WO.bt (fr':=[(7,.int .i64 ((1:Nat):Int))]) ⟨⟨_,rfl,rfl⟩,trivial⟩ ?_
  refine WO.v (R.move rfl) rfl ?_
  refine WO.nil ?_
  exact WX.aH rfl rfl (Kp.refl _)
 ·rintro vs wd kd ⟨e1,e2,-⟩
  refine WO.bt (fr':=[(47,.int .i64 ((i:Nat):Int)),(48,.int .i64 ((1:Nat):Int))]) ⟨⟨_,rfl,e1⟩,⟨_,rfl,e2⟩,trivial⟩ ?_
  refine WO.v (R.jm rfl rfl (by omega)) rfl ?_
  refine WO.nil ?_
  exact WX.aH rfl rfl (Kp.refl _)
 ·rintro vs wd kd ⟨e0,e3,-⟩
  refine WO.bt (fr':=[(46,.slice (some ⟨b,0,none⟩) (n+1) G),(49,.int .i64 ((i+1:Nat):Int))]) ⟨⟨_,rfl,e0⟩,⟨_,rfl,e3⟩,trivial⟩ ?_
  refine WO.v (R.cd rfl rfl Try.underlying22 cg (dw (by omega)) (by omega)) rfl ?_
  refine WO.nil ?_
  exact WX.aH rfl rfl (Kp.refl _)
 ·rintro vs wd kd ⟨-⟩
  refine WO.bt (fr':=[(0,.slice (some ⟨g,0,none⟩) n c)]) ⟨⟨_,rfl,rfl⟩,trivial⟩ ?_
  refine WO.v (R.move rfl) rfl ?_
  refine WO.nil ?_
  exact WX.aH rfl rfl (Kp.refl _)
 ·rintro vs wd kd ⟨-⟩
  refine WO.bt (fr':=[(1,.int .i64 ((i:Nat):Int))]) ⟨⟨_,rfl,rfl⟩,trivial⟩ ?_
  refine WO.v (R.move rfl) rfl ?_
  refine WO.nil ?_
  exact WX.aH rfl rfl (Kp.refl _)
 ·rintro vs wd kd ⟨e5,e6,-⟩
  refine WO.bt (fr':=[(51,.slice (some ⟨g,0,none⟩) n c),(52,.int .i64 ((i:Nat):Int))]) ⟨⟨_,rfl,e5⟩,⟨_,rfl,e6⟩,trivial⟩ ?_
  refine WO.v (R.cd rfl rfl Try.underlying22 cg (dw (by omega)) (by omega)) rfl ?_
  refine WO.nil ?_
  exact WX.aH rfl rfl (Kp.refl _)
 rintro vsx w1 k1 ⟨-,-,-,-,e4,-,-,e7,-⟩
 replace k1:Kp [] (W1.setRow b (cur.take (i*4)++vs++cur.drop (i*4+vs.length)).toArray) w1:=k1
 refine WO.bt (fr':=[(50,.slice (some ⟨b,(i+1)*4,none⟩) (n+1 - (i+1)) (G - (i+1))),(53,.slice (some ⟨g,i*4,none⟩) (n - i) (c - i)),(9,.slice (some ⟨b,0,none⟩) (n+1) G)]) ⟨⟨_,rfl,e4⟩,⟨_,rfl,e7⟩,⟨_,rfl,rfl⟩,trivial⟩ ?_
 have hb2:w1.heap[b]? = some (.cells (List.toArray (cur.take (i*4)++vs++cur.drop (i*4+vs.length))) 42 (0,0)):=by rw [k1.block b (by simpa using a_ hrow) (by simp)]; exact setRow_heap W1 b _ _ 42 _ hrow
 have hd2:CellsAt w1 ⟨g,i*4,none⟩ ds:=(hd.kp (Kp.setRow W1 b _) hgl (by simpa using hgb.symm)).kp k1 (by simpa using hgl) (by simp)
 refine WO.v (R.kx rfl rfl Try.underlying22 cg hb2 hn2 hd2 (by simp only [List.length_append,List.length_take,List.length_drop]; omega) h1d) rfl ?_
 refine WO.nil ?_
 refine WX.next ?_
 refine WC.seq ?_
 refine WC.region ?_
 refine WO.v (R.move rfl) rfl ?_
 refine WO.v (R.assign rfl) rfl ?_
 refine WO.nil ?_
 refine WX.next ?_
 refine WC.ret ?_
 refine WX.gK ?_
 refine WX.tp rfl rfl ?_
 exact ⟨rfl,w1,k1,rfl⟩
set_option maxRecDepth 100000 in
set_option maxHeartbeats 1000000 in
theorem nz {w:World} {g n i c vc:Nat} {ad:Addr} {cur vs ds:List Value} {curA:Array Value} {tA:TypeId} {fA:Nat × Nat} (hi:i<n) (hc:n+1<=c) (hcm:c<=maxLen)
  (hrow:w.heap[g]? = some (.cells cur.toArray 42 (0,0))) (hcur:(n+1)*4<=cur.length) (hv:CellsAt w ad vs) (hvb:w.heap[ad.block]? = some (.cells curA tA fA)) (hvb0:curA.size≠0) (hne:ad.block≠g) (hvl:vs.length=4) (hd:CellsAt w ⟨g,i*4,none⟩ ds) (hdl:ds.length=(n - i)*4)
  (h1v:∀ u ∈ vs,u.oneCell' = true) (h1d:∀ u ∈ ds,u.oneCell' = true) :
  gU Try.prog 31 [.slice (some ⟨g,0,none⟩) n c,.int .i64 (i:Int),.slice (some ad) 1 vc].toArray w fun v w'=>v = .slice (some ⟨g,0,none⟩) (n+1) c/\∃ w1,Kp [] w w1/\w' = (w1.setRow g (cur.take ((i+1)*4)++ds++cur.drop ((i+1)*4+ds.length)).toArray).setRow g ((cur.take ((i+1)*4)++ds++cur.drop ((i+1)*4+ds.length)).take (i*4)++vs++(cur.take ((i+1)*4)++ds++cur.drop ((i+1)*4+ds.length)).drop (i*4+vs.length)).toArray:=by
 have hcm:c<=9223372036854775807:=hcm
 have hn1:vs.length=Nat.min 1 (n+1 - i)*4:=by rw [show Nat.min 1 (n+1 - i)=1 from Nat.min_eq_left (by omega),Nat.one_mul]; exact hvl
 have hn2:ds.length=Nat.min (n+1 - i) (n+1 - (i+1))*4:=by rw [show Nat.min (n+1 - i) (n+1 - (i+1))=n+1 - (i+1) from Nat.min_eq_right (by omega),hdl]; congr 1; omega
 refine gU.enter Try.func31 rfl rfl rfl rfl ?_
 refine WC.seq ?_
 refine WC.region ?_
 refine WO.v (R.assign rfl) rfl ?_
 refine WO.nil ?_
 refine WX.next ?_
 refine WC.seq ?_
 refine WC.region ?_
 refine WO.v (R.move rfl) rfl ?_
 refine WO.v (R.move rfl) rfl ?_
 refine WO.v (R.cd rfl rfl Try.underlying22 cg rfl (by omega)) rfl ?_
 refine WO.nil ?_
 refine WX.next ?_
 refine WC.seq ?_
 refine WC.region ?_
 refine WO.v (R.move rfl) rfl ?_
 refine WO.v (R.len rfl Try.underlying22) rfl ?_
 refine WO.v (R.assign rfl) rfl ?_
 refine WO.nil ?_
 refine WX.next ?_
 refine WC.seq ?_
 refine WC.seq ?_
 refine WC.region ?_
 refine WO.v (R.move rfl) rfl ?_
 refine WO.v (R.eql rfl rfl) rfl ?_
 refine WO.nil ?_
 refine WX.next ?_
 refine WC.cond rfl (fun q=>absurd (of_decide_eq_true q) (by omega)) (fun _=>?_)
 refine WC.skip ?_
 refine WX.next ?_
 refine WC.seq ?_
 refine WC.region ?_
 refine WO.v (R.move rfl) rfl ?_
 refine WO.v (R.len rfl Try.underlying22) rfl ?_
 refine WO.v (R.assign rfl) rfl ?_
 refine WO.nil ?_
 refine WX.next ?_
 refine WC.seq ?_
 refine WC.seq ?_
 refine WC.region ?_
 refine WO.v (R.move rfl) rfl ?_
 refine WO.v (R.move rfl) rfl ?_
 refine WO.v (R.eql rfl rfl) rfl ?_
 refine WO.nil ?_
 refine WX.next ?_
 refine WC.cond rfl (fun q=>absurd (of_decide_eq_true q) (by omega)) (fun _=>?_)
 refine WC.skip ?_
 refine WX.next ?_
 refine WC.seq ?_
 refine WC.seq ?_
 refine WC.region ?_
 refine WO.v (R.move rfl) rfl ?_
 refine WO.v (R.move rfl) rfl ?_
 refine WO.v (R.jm rfl rfl (by omega)) rfl ?_
 refine WO.v (R.move rfl) rfl ?_
 refine WO.v (R.Cn rfl Try.underlying22) rfl ?_
 refine WO.v (R.gtr rfl rfl) rfl ?_
 refine WO.nil ?_
 refine WX.next ?_
 refine WC.cond rfl (fun q=>absurd (of_decide_eq_true q) (by omega)) (fun _=>?_)
 refine WC.skip ?_
 refine WX.next ?_
 refine WC.seq ?_
 refine WC.region ?_
 refine WO.v (R.move rfl) rfl ?_
 refine WO.v (R.move rfl) rfl ?_
 refine WO.v (R.move rfl) rfl ?_
 refine WO.v (R.jm rfl rfl (by omega)) rfl ?_
 refine WO.v (R.jN rfl rfl Try.underlying22 cg (dw (i:=0) (by omega)) (by omega)) rfl ?_
 refine WO.v (R.assign rfl) rfl ?_
 refine WO.nil ?_
 refine WX.next ?_
 refine WC.seq ?_
 refine WC.seq ?_
 refine WC.region ?_
 refine WO.v (R.move rfl) rfl ?_
 refine WO.v (R.move rfl) rfl ?_
 refine WO.v (R.move rfl) rfl ?_
 refine WO.v (R.move rfl) rfl ?_
 refine WO.v (R.jm rfl rfl (by omega)) rfl ?_
 refine WO.v (R.cd rfl rfl Try.underlying22 cg (dw (by omega)) (by omega)) rfl ?_
 refine WO.v (R.Iv (tS:=22) (tR:=4) Try.func68 rfl rfl (by kernel_rfl) (by kernel_rfl) Try.underlying22 cg hne hvb hvb0 hrow rfl rfl) rfl ?_
 refine WO.v (R.not rfl) rfl ?_
 refine WO.nil ?_
 refine WX.next ?_
 refine WC.zC rfl ?_
 refine WC.seq ?_
 refine WC.nK gf [.ex [] (.slice (some ⟨g,0,none⟩) (n+1) c),.ex [] (.int .i64 ((i:Nat):Int)),.ex [] (.int .i64 ((1:Nat):Int)),.ex [1,2] (.int .i64 ((i+1:Nat):Int)),.ex [0,3] (.slice (some ⟨g,(i+1)*4,none⟩) (n+1 - (i+1)) (c - (i+1))),.ex [] (.slice (some ⟨g,0,none⟩) (n+1) c),.ex [] (.int .i64 ((i:Nat):Int)),.ex [5,6] (.slice (some ⟨g,i*4,none⟩) (n+1 - i) (c - i))] 8 (by kernel_rfl) ⟨fun _ _ _ h _=>h,fun _ _ _ h _=>h,fun _ _ _ h _=>h,fun _ _ _ h _=>h,fun _ _ _ h _=>h,fun _ _ _ h _=>h,fun _ _ _ h _=>h,fun _ _ _ h _=>h,trivial⟩ ⟨?_,?_,?_,?_,?_,?_,?_,?_,trivial⟩ ?_
 ·rintro vs wd kd ⟨-⟩
  refine WO.bt (fr':=[(0,.slice (some ⟨g,0,none⟩) (n+1) c)]) ⟨⟨_,rfl,rfl⟩,trivial⟩ ?_
  refine WO.v (R.move rfl) rfl ?_
  refine WO.nil ?_
  exact WX.aH rfl rfl (Kp.refl _)
 ·rintro vs wd kd ⟨-⟩
  refine WO.bt (fr':=[(1,.int .i64 ((i:Nat):Int))]) ⟨⟨_,rfl,rfl⟩,trivial⟩ ?_
  refine WO.v (R.move rfl) rfl ?_
  refine WO.nil ?_
  exact WX.aH rfl rfl (Kp.refl _)
 ·rintro vs wd kd ⟨-⟩
  refine WO.bt (fr':=[(7,.int .i64 ((1:Nat):Int))]) ⟨⟨_,rfl,rfl⟩,trivial⟩ ?_
  refine WO.v (R.move rfl) rfl ?_
  refine WO.nil ?_
  exact WX.aH rfl rfl (Kp.refl _)
 ·rintro vs wd kd ⟨e1,e2,-⟩
  refine WO.bt (fr':=[(70,.int .i64 ((i:Nat):Int)),(71,.int .i64 ((1:Nat):Int))]) ⟨⟨_,rfl,e1⟩,⟨_,rfl,e2⟩,trivial⟩ ?_
  refine WO.v (R.jm rfl rfl (by omega)) rfl ?_
  refine WO.nil ?_
  exact WX.aH rfl rfl (Kp.refl _)
 ·rintro vs wd kd ⟨e0,e3,-⟩
  refine WO.bt (fr':=[(69,.slice (some ⟨g,0,none⟩) (n+1) c),(72,.int .i64 ((i+1:Nat):Int))]) ⟨⟨_,rfl,e0⟩,⟨_,rfl,e3⟩,trivial⟩ ?_
  refine WO.v (R.cd rfl rfl Try.underlying22 cg (dw (by omega)) (by omega)) rfl ?_
  refine WO.nil ?_
  exact WX.aH rfl rfl (Kp.refl _)
 ·rintro vs wd kd ⟨-⟩
  refine WO.bt (fr':=[(0,.slice (some ⟨g,0,none⟩) (n+1) c)]) ⟨⟨_,rfl,rfl⟩,trivial⟩ ?_
  refine WO.v (R.move rfl) rfl ?_
  refine WO.nil ?_
  exact WX.aH rfl rfl (Kp.refl _)
 ·rintro vs wd kd ⟨-⟩
  refine WO.bt (fr':=[(1,.int .i64 ((i:Nat):Int))]) ⟨⟨_,rfl,rfl⟩,trivial⟩ ?_
  refine WO.v (R.move rfl) rfl ?_
  refine WO.nil ?_
  exact WX.aH rfl rfl (Kp.refl _)
 ·rintro vs wd kd ⟨e5,e6,-⟩
  refine WO.bt (fr':=[(74,.slice (some ⟨g,0,none⟩) (n+1) c),(75,.int .i64 ((i:Nat):Int))]) ⟨⟨_,rfl,e5⟩,⟨_,rfl,e6⟩,trivial⟩ ?_
  refine WO.v (R.cd rfl rfl Try.underlying22 cg (dw (by omega)) (by omega)) rfl ?_
  refine WO.nil ?_
  exact WX.aH rfl rfl (Kp.refl _)
 rintro vsx w1 k1 ⟨-,-,-,-,e4,-,-,e7,-⟩
 replace k1:Kp [] w w1:=k1
 refine WO.bt (fr':=[(73,.slice (some ⟨g,(i+1)*4,none⟩) (n+1 - (i+1)) (c - (i+1))),(76,.slice (some ⟨g,i*4,none⟩) (n+1 - i) (c - i)),(0,.slice (some ⟨g,0,none⟩) (n+1) c),(1,.int .i64 ((i:Nat):Int)),(2,.slice (some ad) 1 vc)]) ⟨⟨_,rfl,e4⟩,⟨_,rfl,e7⟩,⟨_,rfl,rfl⟩,⟨_,rfl,rfl⟩,⟨_,rfl,rfl⟩,trivial⟩ ?_
 have hg1:w1.heap[g]? = some (.cells (List.toArray cur) 42 (0,0)):=by rw [k1.block g (a_ hrow) (by simp)]; exact hrow
 refine WO.v (R.kx rfl rfl Try.underlying22 cg hg1 hn2 (hd.kp k1 (a_ hrow) (by simp)) (by omega) h1d) rfl ?_
 refine WO.nil ?_
 refine WX.next ?_
 have hg2:(w1.setRow g (cur.take ((i+1)*4)++ds++cur.drop ((i+1)*4+ds.length)).toArray).heap[g]? = some (.cells (List.toArray (cur.take ((i+1)*4)++ds++cur.drop ((i+1)*4+ds.length))) 42 (0,0)):=setRow_heap w1 g _ _ 42 _ hg1
 have hv2:CellsAt (w1.setRow g (cur.take ((i+1)*4)++ds++cur.drop ((i+1)*4+ds.length)).toArray) ad vs:=(hv.kp k1 (a_ hvb) (by simp)).kp (Kp.setRow w1 g _) (Nat.lt_of_lt_of_le (a_ hvb) k1.size) (by simpa using fun h=>hne h.symm)
 refine WC.seq ?_
 refine WC.region ?_
 refine WO.v (R.move rfl) rfl ?_
 refine WO.v (R.move rfl) rfl ?_
 refine WO.v (R.cd rfl rfl Try.underlying22 cg (dw (by omega)) (by omega)) rfl ?_
 refine WO.v (R.move rfl) rfl ?_
 refine WO.v (R.kx rfl rfl Try.underlying22 cg hg2 hn1 hv2 (by simp only [List.length_append,List.length_take,List.length_drop]; omega) h1v) rfl ?_
 refine WO.nil ?_
 refine WX.next ?_
 refine WC.seq ?_
 refine WC.region ?_
 refine WO.v (R.move rfl) rfl ?_
 refine WO.v (R.assign rfl) rfl ?_
 refine WO.nil ?_
 refine WX.next ?_
 refine WC.ret ?_
 refine WX.gK ?_
 refine WX.tp rfl rfl ?_
 exact ⟨rfl,w1,k1,rfl⟩
theorem qu {G:Gl} {ρ:List RE} {H:AH} {w:World} (hs:G.shp=aw aJ) (hR:Rep G ρ H w) {l m:List (den (.nm .sess))} (hH:getO H 0 = .row 42 (.nm .sess) l) (hl:l.length<1048576) {i:Nat} (hi:i<=l.length) {v0:Value} (h0:Rd (cx G ρ w) ρ (.own 0) v0)
  {ad:Addr} {k:Nat} {cys:List Value} {bAV:AV} (hm:m.length=1) (hb:Rd (cx G ρ w) ρ bAV (.slice (some ad) 1 k)) (hbv:(bAV.vw H).fp (.nm .sess)=some m) (hv:CellsAt w ad cys) (hvl:cys.length=4) (h1v:∀ u ∈ cys,u.oneCell' = true) (hp:Pds (cx G ρ w) (m.flatMap (cellsOf (.nm .sess))) cys)
  (hne:∀ g c n z,ρ[0]? = some (.row g c n z)->ad.block≠g) {curA:Array Value} {tA:TypeId} {fA:Nat × Nat} (hvb:w.heap[ad.block]? = some (.cells curA tA fA)) (hvb0:curA.size≠0) :
  gU Try.prog 31 [v0,.int .i64 (i:Int),.slice (some ad) 1 k].toArray w fun v w'=>∃ ρ',Stp (wi 0) ρ w ρ' w' /\ Rep G ρ' ((eC (AV.kill 0) H).set 0 (.row 42 (.nm .sess) (l.take i++m++l.drop i))) w' /\ Rd (cx G ρ' w') ρ' (.own 0) v:=by
 have hT:bn Try.prog G.shp aJ:=hs ▸ fY
 obtain ⟨hshp,hlen⟩:=cY hR hH
 have hl64:l.length<=9223372036854775807:=by omega
 have hin:((l.length:Nat):Int)<=9223372036854775807:=by omega
 by_cases hie:i=l.length
 ·subst hie
  have hc:∃ A c,v0 = .slice A l.length c:=by
   rcases h0 with ⟨g,cap,len,z,h1,rfl⟩ | ⟨h1,a,rfl⟩
   ·rcases bu hR hH with ⟨h2,_⟩ | ⟨g',cap',cells,sp,h2,_⟩
    ·rw [h1] at h2; cases h2
    ·rw [h1] at h2; cases h2; exact ⟨_,_,rfl⟩
   ·rcases bu hR hH with ⟨_,h2⟩ | ⟨g',cap',cells,sp,h2,_⟩
    ·subst h2; exact ⟨_,_,rfl⟩
    ·rw [h1] at h2; cases h2
  obtain ⟨A,c,rfl⟩:=hc
  refine rz fun F x y ty hx hy=>?_
  have happ:fI aJ (wi 0) ([]:AFr) H 22 (.own 0) bAV=some ⟨one (.own 0),[],(eC (AV.kill 0) H).set 0 (.row 42 (.nm .sess) (l++m)),[(l.length+m.length)*(Sh.nm NT.sess).bytes<=140737488355328],[]⟩:=by
   unfold fI
   rw [show br aJ 22=some ⟨.sl 42 (some (.nm .sess)),1,[.em true]⟩ from by kernel_rfl]
   simp only [hbv,hH]
   rfl
  obtain ⟨v,w',h1,ρ',h2,h3,_,h5,_⟩:=fG (P:=Try.prog) (n:=95) (F:=[]) (ty:=ty) (fr:=[]) (x:=.const (.slice A l.length c)) (y:=.const (.slice (some ad) 1 k)) hT hR .nil happ (by
   intro p hp
   rw [List.mem_singleton] at hp; subst hp
   show (l.length+m.length)*32<=_
   omega) h0 hb rfl rfl
  refine ⟨v,w',R.uo h1 hx hy,ρ',h2,?_,h5⟩
  rw [List.take_length,List.drop_length,List.append_nil]
  exact h3
 ·have hlt:i<l.length:=by omega
  rcases bu hR hH with ⟨_,h2⟩ | ⟨g,cap,cells,sp,hρ,hg,hpd,hsz,hcap,hmax⟩
  ·subst h2; simp at hlt
  obtain ⟨hnb,hil,hiH⟩:=jD hR hH
  have hv0:v0 = .slice (some ⟨g,0,none⟩) l.length cap:=by
   rcases h0 with ⟨g',cap',len,z,h1,rfl⟩ | ⟨h1,a,rfl⟩
   ·rw [hρ] at h1; cases h1; rfl
   ·rw [hρ] at h1; cases h1
  subst hv0
  have hz:(Sh.nm NT.sess).size=4:=rfl
  have hby:(Sh.nm NT.sess).bytes=32:=rfl
  have hcl:cells.length=l.length*4:=by rw [<- hpd.length,bH,hz]
  rw [hz,List.length_append] at hsz
  have hone:∀ u ∈ cells.drop (i*4),u.oneCell' = true:=fun u hu=>hpd.zV u (List.mem_of_mem_drop hu)
  have hd:CellsAt w ⟨g,i*4,none⟩ (cells.drop (i*4)):=by
   have:=(bV hg).shift (i*4)
   rwa [add_lit,Nat.zero_add] at this
  have hdl:(cells.drop (i*4)).length=(l.length - i)*4:=by rw [List.length_drop,hcl]; omega
  have hgl:=a_ hg
  have hzl:(l.take i++m++l.drop i).length=l.length+1:=by
   rw [List.length_append,List.length_append,List.length_take,List.length_drop,hm]; omega
  have hnew:∀ {c:Cx},(cx G ρ w).le c->Pds c ((l.take i++m++l.drop i).flatMap (cellsOf (.nm .sess))) (cells.take (i*4)++cys++cells.drop (i*4)):=fun {c} hle=>by
   rw [List.flatMap_append,List.flatMap_append]
   exact (((bD hpd i).append hp).append (bL hpd i)).carry hle
  have hnl:(cells.take (i*4)++cys++cells.drop (i*4)).length=(l.length+1)*4:=by
   rw [List.length_append,List.length_append,List.length_take,List.length_drop,hcl,hvl]; omega
  have hbig:(l.take i++m++l.drop i).length*(Sh.nm NT.sess).bytes<=140737488355328:=by rw [hzl,hby]; omega
  -- what is shown of any way
  have fin:∀ (S:List Nat) (g2 cap2:Nat) (sp2:List Value) (w':World),Kp S w w' -> (∀ b ∈ S,b=g)->(g2=g\/w.heap.size<=g2)->w'.heap[g2]? = some (.cells (List.toArray (cells.take (i*4)++cys++cells.drop (i*4)++sp2)) 42 (0,0))->(l.length+1)*4+sp2.length=cap2*4->l.length+1<=cap2->cap2<=maxLen ->
    ∃ ρ',Stp (wi 0) ρ w ρ' w' /\ Rep G ρ' ((eC (AV.kill 0) H).set 0 (.row 42 (.nm .sess) (l.take i++m++l.drop i))) w' /\ Rd (cx G ρ' w') ρ' (.own 0) (.slice (some ⟨g2,0,none⟩) (l.length+1) cap2):=by
   intro S g2 cap2 sp2 w' hk hS hg2 hh hlen2 hle2 hmax2
   obtain ⟨k1,k2,_⟩:=iP (ro:=wi 0) (s':=.nm .sess) (e':=42) (zs:=l.take i++m++l.drop i) hR hH ⟨rfl,rfl⟩ hk (fun b hb=>⟨_,hρ,by rw [hS b hb]; rfl⟩) (r':=.row g2 cap2 (l.take i++m++l.drop i).length (Sh.nm NT.sess).size) (fun b hb=>by
    cases hb
    rcases hg2 with rfl | hg2
    ·exact .inl ⟨_,hρ,rfl⟩
    ·exact .inr ⟨hg2,a_ hh⟩) (fun hle=>⟨hshp,hbig,.inr ⟨g2,cap2,_,sp2,rfl,hh,hnew hle,by rw [List.length_append,hnl,hz]; exact hlen2,by rw [hzl]; exact hle2,hmax2⟩⟩)
   exact ⟨_,k1,k2,.inl ⟨g2,cap2,_,_,List.getElem?_set_self hil,by rw [hzl]⟩⟩
  have eo:(i+1)*4=i*4+4:=by omega
  by_cases hroom:l.length+1<=cap
  ·refine (nz hlt hroom hmax hg (by rw [List.length_append]; omega) hv hvb hvb0 (hne _ _ _ _ hρ) hvl hd hdl h1v hone).mono fun v w' ⟨e1,w1,k1,e2⟩=>?_
   subst e1; subst e2
   rw [eo,Dp (by omega) hvl]
   have hk:Kp [g] w ((w1.setRow g ((cells++sp).take (i*4+4)++cells.drop (i*4)++(cells++sp).drop (i*4+4+(cells.drop (i*4)).length)).toArray).setRow g (cells.take (i*4)++cys++cells.drop (i*4)++sp.drop 4).toArray):=((k1.sub (by simp)).step (Kp.setRow w1 g _) (by simp)).step (Kp.setRow _ g _) (by simp)
   have hg1:w1.heap[g]? = some (.cells (List.toArray (cells++sp)) 42 (0,0)):=by rw [k1.block g hgl (by simp)]; exact hg
   exact fin [g] g cap (sp.drop 4) _ hk (by simp) (.inl rfl) (setRow_heap _ g _ _ 42 _ (setRow_heap w1 g _ _ 42 _ hg1)) (by rw [List.length_drop]; omega) hroom hmax
  ·obtain ⟨ti,hi0,hz0,hz1,hz2⟩:=info_parts zT
   have eik:i+(l.length+1 - i)=l.length+1:=by omega
   have hge:=grownCap_ge w (l.length+1) cap 42
   have hgm:=grownCap_le_maxLen w (l.length+1) cap 42 (by simp [maxLen]; omega)
   have hold:(Builtin.firstCells ti.size i (.slice (some ⟨g,0*4,none⟩) i cap)).run Try.prog w.drew = .ok (cells.take (i*4)).toArray w.drew:=by
    have h:=run_loadCells_list (P:=Try.prog) w.drew ⟨g,0*4,none⟩ (cells.take (i*4)) (by rw [Nat.zero_mul]; exact (bV hg).take _)
    rw [List.length_take,Nat.min_eq_left (by omega)] at h
    rw [hz1]; exact h
   have happ:∀ (F:Fr) (x y:Operand) (ty:TypeId),ev F x=some (.slice (some ⟨g,0*4,none⟩) i cap)->ev F y=some (.int .i64 ((l.length+1 - i:Nat):Int))->aL Try.prog 95 F w (.call { callee:=.builtin .append,args:=#[x,y],argTypes:=#[22,3] }) ty (.slice (some ⟨w.heap.size,0,none⟩) (l.length+1) (grownCap w (l.length+1) cap 42)) (w.drew.alloc (.cells (List.toArray (cells.take (i*4)++((Builtin.zeroCells (Value.agg #[.int .i64 0,.int .i64 0,.int .i64 0,.int .i64 0]).cells (l.length+1 - i)).toList++(Builtin.zeroCells (Value.agg #[.int .i64 0,.int .i64 0,.int .i64 0,.int .i64 0]).cells (grownCap w (l.length+1) cap 42 - (l.length+1))).toList))) 42)):=fun F x y ty hx hy=>by
    have h:=R.GH (P:=Try.prog) (n:=95) (ty:=ty) hx hy Try.underlying22 Try.underlying3 hi0 hz0 hold (by omega) (by rw [hz1]; decide) (by omega) (by omega) (by rw [hz2]; omega) (by rw [hz2,eik]; exact growslice_fits (by omega) (by omega))
    rw [eik] at h
    have e:∀ (a:List Value) (b c:Array Value),a.toArray++b++c=(a++(b.toList++c.toList)).toArray:=fun a b c=>by apply Array.ext'; simp
    rw [e] at h
    exact h
   have hcurl:(cells.take (i*4)++((Builtin.zeroCells (Value.agg #[.int .i64 0,.int .i64 0,.int .i64 0,.int .i64 0]).cells (l.length+1 - i)).toList++(Builtin.zeroCells (Value.agg #[.int .i64 0,.int .i64 0,.int .i64 0,.int .i64 0]).cells (grownCap w (l.length+1) cap 42 - (l.length+1))).toList)).length=grownCap w (l.length+1) cap 42*4:=by
    rw [List.length_append,List.length_append,List.length_take,mB,mB]
    show min _ _+((l.length+1 - i)*4+(grownCap w (l.length+1) cap 42 - (l.length+1))*4)=_
    omega
   have htk:(cells.take (i*4)++((Builtin.zeroCells (Value.agg #[.int .i64 0,.int .i64 0,.int .i64 0,.int .i64 0]).cells (l.length+1 - i)).toList++(Builtin.zeroCells (Value.agg #[.int .i64 0,.int .i64 0,.int .i64 0,.int .i64 0]).cells (grownCap w (l.length+1) cap 42 - (l.length+1))).toList)).take (i*4)=cells.take (i*4):=List.take_left' (by rw [List.length_take]; omega)
   generalize grownCap w (l.length+1) cap 42=GC at *
   generalize cells.take (i*4)++((Builtin.zeroCells (Value.agg #[.int .i64 0,.int .i64 0,.int .i64 0,.int .i64 0]).cells (l.length+1 - i)).toList++(Builtin.zeroCells (Value.agg #[.int .i64 0,.int .i64 0,.int .i64 0,.int .i64 0]).cells (GC - (l.length+1))).toList)=cur at *
   have hK1:Kp [] w (w.drew.alloc (.cells (List.toArray cur) 42)):=((Kp.refl w).drew).step (Kp.alloc w.drew _) (by simp)
   have hrow:(w.drew.alloc (.cells (List.toArray cur) 42)).heap[w.heap.size]? = some (.cells (List.toArray cur) 42 (0,0)):=heap_alloc_new w.drew _
   generalize w.drew.alloc (.cells (List.toArray cur) 42)=W1 at *
   refine (qf hlt hcap (by omega) hmax hge hgm happ hrow (by omega) (hv.kp hK1 (a_ hvb) (by simp)) hvl (hd.kp hK1 hgl (by simp)) (by omega) (Nat.lt_of_lt_of_le hgl hK1.size) hdl h1v hone).mono fun v w' ⟨e1,w1,k1,e2⟩=>?_
   subst e1; subst e2
   rw [eo,Di (cells:=cells) (by omega) hvl htk]
   have hs1:∀ b ∈ [w.heap.size],b ∈ ([]:List Nat)\/w.heap.size<=b:=fun b hb=>.inr (by rw [List.mem_singleton] at hb; omega)
   have hk:Kp [] w (w1.setRow w.heap.size (cells.take (i*4)++cys++cells.drop (i*4)++cur.drop (i*4+4+(cells.drop (i*4)).length)).toArray):=((hK1.step (Kp.setRow W1 w.heap.size _) hs1).step k1 (by simp)).step (Kp.setRow w1 w.heap.size _) hs1
   have hg1:=(k1.block w.heap.size (by simpa using a_ hrow) (by simp)).trans (setRow_heap W1 w.heap.size _ (cur.take (i*4)++cys++cur.drop (i*4+cys.length)).toArray 42 _ hrow)
   exact fin [] w.heap.size GC _ _ hk (by simp) (.inr (Nat.le_refl _)) (setRow_heap w1 w.heap.size _ _ 42 _ hg1) (by rw [List.length_drop]; omega) hge hgm
theorem qk (i:Int) (l m:List (den (.nm .sess))) (h:0<=i/\i<=(l.length:Int)) (hl:l.length<1048576) (hm:m.length=1):Sat Try.prog (aw aJ) 31 [.c (.own 0),.c (.int i),.c (.own 1)] [.row 42 (.nm .sess) l,.row 42 (.nm .sess) m] ⟨[0<=i/\i<=(l.length:Int),l.length<1048576,m.length=1],[.c (.own 0)],some [.row 42 (.nm .sess) (l.take i.toNat++m++l.drop i.toNat),.row 42 (.nm .sess) m],false⟩:=by
 refine ⟨⟨_,Try.func31,by decide,rfl⟩,fun G ρ w vs hs hR hvs=>?_⟩
 obtain ⟨i,rfl⟩:=Int.eq_ofNat_of_zero_le h.1
 cases hvs with | cons h0 hvs=>
 cases hvs with | cons h1 hvs=>
 cases hvs with | cons h2 hvs=>
 cases hvs
 have h1:Pd (cx G ρ w) (.int (i:Int)) _:=h1
 cases h1
 have h0:Rd (cx G ρ w) ρ (.own 0) _:=h0
 have h2:Rd (cx G ρ w) ρ (.own 1) _:=h2
 have hH:getO [AO.row 42 (.nm .sess) l,.row 42 (.nm .sess) m] 0 = .row 42 (.nm .sess) l:=rfl
 have hbv:(AV.vw [AO.row 42 (.nm .sess) l,.row 42 (.nm .sess) m] (.own 1)).fp (.nm .sess)=some m:=by simp [AV.vw,AV.fp,getO]
 obtain ⟨A,k,cys,rfl,s1,s2,s3,s4⟩:=lN hR hbv h2
 rw [hm] at h2 s1 s3
 rw [hm]
 obtain ⟨ad,rfl,s5⟩:∃ ad,A=some ad/\CellsAt w ad cys:=s3.resolve_left (by decide)
 have hz:(Sh.nm NT.sess).size=4:=rfl
 rw [hz] at s1
 obtain ⟨u,hu⟩:∃ u,cys[0]? = some u:=⟨_,List.getElem?_eq_getElem (by omega)⟩
 obtain ⟨cur,t,f,hc,hc0⟩:=oE (s5 0 u hu)
 have hne:∀ g c n z,ρ[0]? = some (.row g c n z)->ad.block≠g:=fun g c n z hg e=>by
  rcases h2 with ⟨g',cap',len,z',h3,h4⟩ | ⟨h3,a,h4⟩
  ·cases h4
   have:=hR.inj 0 1 _ _ g hg h3 rfl (by rw [<- e]; rfl)
   omega
  ·cases h4
 rw [eR] at hc
 refine (qu hs hR hH hl (by omega) h0 hm h2 hbv s5 s1 s2 s4 hne hc hc0).mono fun v w' ⟨ρ',k1,k2,k3⟩=>?_
 exact ⟨[v],rfl,ρ',k2,k1.ext,k1.bx,.cons k3 .nil,fun hb=>by cases hb⟩
theorem cj:(Try.prog.info? 51).map (·.size)=some 2:=by kernel_rfl
theorem vK:(Try.prog.info? 51).map (fun i=>(i.zero,i.size,i.bytes))=some (some (.agg #[.int .i64 0,.int .i64 0]),2,16):=by kernel_rfl
set_option maxRecDepth 100000 in
set_option maxHeartbeats 1000000 in
theorem sX {w:World} {n c vc:Nat} {A:Option Addr} {B:Option Addr} {φ:Value->World->Prop} (happ:∀ (F:Fr) (x y:Operand) (ty:TypeId),ev F x=some (.slice A n c)->ev F y=some (.slice B 1 vc)->∃ v2 w2,aL Try.prog 95 F w (.call { callee:=.builtin .append,args:=#[x,y],argTypes:=#[23,23] }) ty v2 w2/\φ v2 w2) :
  gU Try.prog 74 [.slice A n c,.int .i64 (n:Int),.slice B 1 vc].toArray w φ:=by
 refine gU.enter Try.func74 rfl rfl rfl rfl ?_
 refine WC.seq ?_
 refine WC.region ?_
 refine WO.v (R.assign rfl) rfl ?_
 refine WO.nil ?_
 refine WX.next ?_
 refine WC.seq ?_
 refine WC.region ?_
 refine WO.v (R.move rfl) rfl ?_
 refine WO.v (R.move rfl) rfl ?_
 refine WO.v (R.cd rfl rfl Try.underlying23 cj rfl (by omega)) rfl ?_
 refine WO.nil ?_
 refine WX.next ?_
 refine WC.seq ?_
 refine WC.region ?_
 refine WO.v (R.move rfl) rfl ?_
 refine WO.v (R.len rfl Try.underlying23) rfl ?_
 refine WO.v (R.assign rfl) rfl ?_
 refine WO.nil ?_
 refine WX.next ?_
 refine WC.seq ?_
 refine WC.seq ?_
 refine WC.region ?_
 refine WO.v (R.move rfl) rfl ?_
 refine WO.v (R.eql rfl rfl) rfl ?_
 refine WO.nil ?_
 refine WX.next ?_
 refine WC.cond rfl (fun q=>absurd (of_decide_eq_true q) (by omega)) (fun _=>?_)
 refine WC.skip ?_
 refine WX.next ?_
 refine WC.seq ?_
 refine WC.region ?_
 refine WO.v (R.move rfl) rfl ?_
 refine WO.v (R.len rfl Try.underlying23) rfl ?_
 refine WO.v (R.assign rfl) rfl ?_
 refine WO.nil ?_
 refine WX.next ?_
 refine WC.seq ?_
 refine WC.seq ?_
 refine WC.region ?_
 refine WO.v (R.move rfl) rfl ?_
 refine WO.v (R.move rfl) rfl ?_
 refine WO.v (R.eql rfl rfl) rfl ?_
 refine WO.nil ?_
 refine WX.next ?_
 refine WC.cond rfl (fun _=>?_) (fun q=>absurd rfl (of_decide_eq_false q))
 refine WC.seq ?_
 refine WC.region ?_
 refine WO.v (R.move rfl) rfl ?_
 refine WO.v (R.move rfl) rfl ?_
 refine WO.ve (happ _ _ _ _ rfl rfl) rfl fun v2 w2 hv2=>?_
 refine WO.v (R.assign rfl) rfl ?_
 refine WO.nil ?_
 refine WX.next ?_
 refine WC.ret ?_
 refine WX.gK ?_
 refine WX.tp rfl rfl ?_
 exact hv2
set_option maxRecDepth 100000 in
set_option maxHeartbeats 1000000 in
theorem rm {w W1:World} {g b n i c vc G:Nat} {ad:Addr} {cur vs ds:List Value} (hi:i<n) (hnc:n<=c) (hc:c<n+1) (hcm:c<=maxLen) (hG:n+1<=G) (hGm:G<=maxLen)
  (happ:∀ (F:Fr) (x y:Operand) (ty:TypeId),ev F x=some (.slice (some ⟨g,0*2,none⟩) i c)->ev F y=some (.int .i64 ((n+1 - i:Nat):Int))->aL Try.prog 95 F w (.call { callee:=.builtin .append,args:=#[x,y],argTypes:=#[23,3] }) ty (.slice (some ⟨b,0,none⟩) (n+1) G) W1)
  (hrow:W1.heap[b]? = some (.cells cur.toArray 51 (0,0))) (hcur:(n+1)*2<=cur.length) (hv:CellsAt W1 ad vs) (hvl:vs.length=2) (hd:CellsAt W1 ⟨g,i*2,none⟩ ds) (hgb:g≠b) (hgl:g<W1.heap.size) (hdl:ds.length=(n - i)*2)
  (h1v:∀ u ∈ vs,u.oneCell' = true) (h1d:∀ u ∈ ds,u.oneCell' = true) :
  gU Try.prog 74 [.slice (some ⟨g,0,none⟩) n c,.int .i64 (i:Int),.slice (some ad) 1 vc].toArray w fun v w'=>v = .slice (some ⟨b,0,none⟩) (n+1) G/\∃ w1,Kp [] (W1.setRow b (cur.take (i*2)++vs++cur.drop (i*2+vs.length)).toArray) w1/\w' = w1.setRow b ((cur.take (i*2)++vs++cur.drop (i*2+vs.length)).take ((i+1)*2)++ds++(cur.take (i*2)++vs++cur.drop (i*2+vs.length)).drop ((i+1)*2+ds.length)).toArray:=by
 have hGm:G<=9223372036854775807:=hGm
 have hcm:c<=9223372036854775807:=hcm
 have hn1:vs.length=Nat.min 1 (n+1 - i)*2:=by rw [show Nat.min 1 (n+1 - i)=1 from Nat.min_eq_left (by omega),Nat.one_mul]; exact hvl
 have hn2:ds.length=Nat.min (n - i) (n+1 - (i+1))*2:=by rw [show Nat.min (n - i) (n+1 - (i+1))=n - i from Nat.min_eq_left (by omega)]; exact hdl
 refine gU.enter Try.func74 rfl rfl rfl rfl ?_
 refine WC.seq ?_
 refine WC.region ?_
 refine WO.v (R.assign rfl) rfl ?_
 refine WO.nil ?_
 refine WX.next ?_
 refine WC.seq ?_
 refine WC.region ?_
 refine WO.v (R.move rfl) rfl ?_
 refine WO.v (R.move rfl) rfl ?_
 refine WO.v (R.cd rfl rfl Try.underlying23 cj rfl (by omega)) rfl ?_
 refine WO.nil ?_
 refine WX.next ?_
 refine WC.seq ?_
 refine WC.region ?_
 refine WO.v (R.move rfl) rfl ?_
 refine WO.v (R.len rfl Try.underlying23) rfl ?_
 refine WO.v (R.assign rfl) rfl ?_
 refine WO.nil ?_
 refine WX.next ?_
 refine WC.seq ?_
 refine WC.seq ?_
 refine WC.region ?_
 refine WO.v (R.move rfl) rfl ?_
 refine WO.v (R.eql rfl rfl) rfl ?_
 refine WO.nil ?_
 refine WX.next ?_
 refine WC.cond rfl (fun q=>absurd (of_decide_eq_true q) (by omega)) (fun _=>?_)
 refine WC.skip ?_
 refine WX.next ?_
 refine WC.seq ?_
 refine WC.region ?_
 refine WO.v (R.move rfl) rfl ?_
 refine WO.v (R.len rfl Try.underlying23) rfl ?_
 refine WO.v (R.assign rfl) rfl ?_
 refine WO.nil ?_
 refine WX.next ?_
 refine WC.seq ?_
 refine WC.seq ?_
 refine WC.region ?_
 refine WO.v (R.move rfl) rfl ?_
 refine WO.v (R.move rfl) rfl ?_
 refine WO.v (R.eql rfl rfl) rfl ?_
 refine WO.nil ?_
 refine WX.next ?_
 refine WC.cond rfl (fun q=>absurd (of_decide_eq_true q) (by omega)) (fun _=>?_)
 refine WC.skip ?_
 refine WX.next ?_
 refine WC.seq ?_
 refine WC.seq ?_
 refine WC.region ?_
 refine WO.v (R.move rfl) rfl ?_
 refine WO.v (R.move rfl) rfl ?_
 refine WO.v (R.jm rfl rfl (by omega)) rfl ?_
 refine WO.v (R.move rfl) rfl ?_
 refine WO.v (R.Cn rfl Try.underlying23) rfl ?_
 refine WO.v (R.gtr rfl rfl) rfl ?_
 refine WO.nil ?_
 refine WX.next ?_
 refine WC.cond rfl (fun _=>?_) (fun q=>absurd (by omega) (of_decide_eq_false q))
 refine WC.seq ?_
 refine WC.region ?_
 refine WO.v (R.move rfl) rfl ?_
 refine WO.v (R.move rfl) rfl ?_
 refine WO.v (R.jN rfl rfl Try.underlying23 cj (dw (i:=0) (by omega)) (by omega)) rfl ?_
 refine WO.v (R.move rfl) rfl ?_
 refine WO.v (R.move rfl) rfl ?_
 refine WO.v (R.jm rfl rfl (by omega)) rfl ?_
 refine WO.v (R.move rfl) rfl ?_
 refine WO.v (R.GP rfl rfl (by omega) (by omega)) rfl ?_
 refine WO.v (happ _ _ _ _ rfl rfl) rfl ?_
 refine WO.v (R.assign rfl) rfl ?_
 refine WO.nil ?_
 refine WX.next ?_
 refine WC.seq ?_
 refine WC.region ?_
 refine WO.v (R.move rfl) rfl ?_
 refine WO.v (R.move rfl) rfl ?_
 refine WO.v (R.cd rfl rfl Try.underlying23 cj (dw (by omega)) (by omega)) rfl ?_
 refine WO.v (R.move rfl) rfl ?_
 refine WO.v (R.kx rfl rfl Try.underlying23 cj hrow hn1 hv (by omega) h1v) rfl ?_
 refine WO.nil ?_
 refine WX.next ?_
 refine WC.seq ?_
 refine WC.nK gf [.ex [] (.slice (some ⟨b,0,none⟩) (n+1) G),.ex [] (.int .i64 ((i:Nat):Int)),.ex [] (.int .i64 ((1:Nat):Int)),.ex [1,2] (.int .i64 ((i+1:Nat):Int)),.ex [0,3] (.slice (some ⟨b,(i+1)*2,none⟩) (n+1 - (i+1)) (G - (i+1))),.ex [] (.slice (some ⟨g,0,none⟩) n c),.ex [] (.int .i64 ((i:Nat):Int)),.ex [5,6] (.slice (some ⟨g,i*2,none⟩) (n - i) (c - i))] 8 (by kernel_rfl) ⟨fun _ _ _ h _=>h,fun _ _ _ h _=>h,fun _ _ _ h _=>h,fun _ _ _ h _=>h,fun _ _ _ h _=>h,fun _ _ _ h _=>h,fun _ _ _ h _=>h,fun _ _ _ h _=>h,trivial⟩ ⟨?_,?_,?_,?_,?_,?_,?_,?_,trivial⟩ ?_
 ·rintro vs wd kd ⟨-⟩
  refine WO.bt (fr':=[(9,.slice (some ⟨b,0,none⟩) (n+1) G)]) ⟨⟨_,rfl,rfl⟩,trivial⟩ ?_
  refine WO.v (R.move rfl) rfl ?_
  refine WO.nil ?_
  exact WX.aH rfl rfl (Kp.refl _)
 ·rintro vs wd kd ⟨-⟩
  refine WO.bt (fr':=[(1,.int .i64 ((i:Nat):Int))]) ⟨⟨_,rfl,rfl⟩,trivial⟩ ?_
  refine WO.v (R.move rfl) rfl ?_
  refine WO.nil ?_
  exact WX.aH rfl rfl (Kp.refl _)
 ·rintro vs wd kd ⟨-⟩
  refine WO.bt (fr':=[(7,.int .i64 ((1:Nat):Int))]) ⟨⟨_,rfl,rfl⟩,trivial⟩ ?_
  refine WO.v (R.move rfl) rfl ?_
  refine WO.nil ?_
  exact WX.aH rfl rfl (Kp.refl _)
 ·rintro vs wd kd ⟨e1,e2,-⟩
  refine WO.bt (fr':=[(47,.int .i64 ((i:Nat):Int)),(48,.int .i64 ((1:Nat):Int))]) ⟨⟨_,rfl,e1⟩,⟨_,rfl,e2⟩,trivial⟩ ?_
  refine WO.v (R.jm rfl rfl (by omega)) rfl ?_
  refine WO.nil ?_
  exact WX.aH rfl rfl (Kp.refl _)
 ·rintro vs wd kd ⟨e0,e3,-⟩
  refine WO.bt (fr':=[(46,.slice (some ⟨b,0,none⟩) (n+1) G),(49,.int .i64 ((i+1:Nat):Int))]) ⟨⟨_,rfl,e0⟩,⟨_,rfl,e3⟩,trivial⟩ ?_
  refine WO.v (R.cd rfl rfl Try.underlying23 cj (dw (by omega)) (by omega)) rfl ?_
  refine WO.nil ?_
  exact WX.aH rfl rfl (Kp.refl _)
 ·rintro vs wd kd ⟨-⟩
  refine WO.bt (fr':=[(0,.slice (some ⟨g,0,none⟩) n c)]) ⟨⟨_,rfl,rfl⟩,trivial⟩ ?_
  refine WO.v (R.move rfl) rfl ?_
  refine WO.nil ?_
  exact WX.aH rfl rfl (Kp.refl _)
 ·rintro vs wd kd ⟨-⟩
  refine WO.bt (fr':=[(1,.int .i64 ((i:Nat):Int))]) ⟨⟨_,rfl,rfl⟩,trivial⟩ ?_
  refine WO.v (R.move rfl) rfl ?_
  refine WO.nil ?_
  exact WX.aH rfl rfl (Kp.refl _)
 ·rintro vs wd kd ⟨e5,e6,-⟩
  refine WO.bt (fr':=[(51,.slice (some ⟨g,0,none⟩) n c),(52,.int .i64 ((i:Nat):Int))]) ⟨⟨_,rfl,e5⟩,⟨_,rfl,e6⟩,trivial⟩ ?_
  refine WO.v (R.cd rfl rfl Try.underlying23 cj (dw (by omega)) (by omega)) rfl ?_
  refine WO.nil ?_
  exact WX.aH rfl rfl (Kp.refl _)
 rintro vsx w1 k1 ⟨-,-,-,-,e4,-,-,e7,-⟩
 replace k1:Kp [] (W1.setRow b (cur.take (i*2)++vs++cur.drop (i*2+vs.length)).toArray) w1:=k1
 refine WO.bt (fr':=[(50,.slice (some ⟨b,(i+1)*2,none⟩) (n+1 - (i+1)) (G - (i+1))),(53,.slice (some ⟨g,i*2,none⟩) (n - i) (c - i)),(9,.slice (some ⟨b,0,none⟩) (n+1) G)]) ⟨⟨_,rfl,e4⟩,⟨_,rfl,e7⟩,⟨_,rfl,rfl⟩,trivial⟩ ?_
 have hb2:w1.heap[b]? = some (.cells (List.toArray (cur.take (i*2)++vs++cur.drop (i*2+vs.length))) 51 (0,0)):=by rw [k1.block b (by simpa using a_ hrow) (by simp)]; exact setRow_heap W1 b _ _ 51 _ hrow
 have hd2:CellsAt w1 ⟨g,i*2,none⟩ ds:=(hd.kp (Kp.setRow W1 b _) hgl (by simpa using hgb.symm)).kp k1 (by simpa using hgl) (by simp)
 refine WO.v (R.kx rfl rfl Try.underlying23 cj hb2 hn2 hd2 (by simp only [List.length_append,List.length_take,List.length_drop]; omega) h1d) rfl ?_
 refine WO.nil ?_
 refine WX.next ?_
 refine WC.seq ?_
 refine WC.region ?_
 refine WO.v (R.move rfl) rfl ?_
 refine WO.v (R.assign rfl) rfl ?_
 refine WO.nil ?_
 refine WX.next ?_
 refine WC.ret ?_
 refine WX.gK ?_
 refine WX.tp rfl rfl ?_
 exact ⟨rfl,w1,k1,rfl⟩
set_option maxRecDepth 100000 in
set_option maxHeartbeats 1000000 in
theorem pO {w:World} {g n i c vc:Nat} {ad:Addr} {cur vs ds:List Value} {curA:Array Value} {tA:TypeId} {fA:Nat × Nat} (hi:i<n) (hc:n+1<=c) (hcm:c<=maxLen)
  (hrow:w.heap[g]? = some (.cells cur.toArray 51 (0,0))) (hcur:(n+1)*2<=cur.length) (hv:CellsAt w ad vs) (hvb:w.heap[ad.block]? = some (.cells curA tA fA)) (hvb0:curA.size≠0) (hne:ad.block≠g) (hvl:vs.length=2) (hd:CellsAt w ⟨g,i*2,none⟩ ds) (hdl:ds.length=(n - i)*2)
  (h1v:∀ u ∈ vs,u.oneCell' = true) (h1d:∀ u ∈ ds,u.oneCell' = true) :
  gU Try.prog 74 [.slice (some ⟨g,0,none⟩) n c,.int .i64 (i:Int),.slice (some ad) 1 vc].toArray w fun v w'=>v = .slice (some ⟨g,0,none⟩) (n+1) c/\∃ w1,Kp [] w w1/\w' = (w1.setRow g (cur.take ((i+1)*2)++ds++cur.drop ((i+1)*2+ds.length)).toArray).setRow g ((cur.take ((i+1)*2)++ds++cur.drop ((i+1)*2+ds.length)).take (i*2)++vs++(cur.take ((i+1)*2)++ds++cur.drop ((i+1)*2+ds.length)).drop (i*2+vs.length)).toArray:=by
 have hcm:c<=9223372036854775807:=hcm
 have hn1:vs.length=Nat.min 1 (n+1 - i)*2:=by rw [show Nat.min 1 (n+1 - i)=1 from Nat.min_eq_left (by omega),Nat.one_mul]; exact hvl
 have hn2:ds.length=Nat.min (n+1 - i) (n+1 - (i+1))*2:=by rw [show Nat.min (n+1 - i) (n+1 - (i+1))=n+1 - (i+1) from Nat.min_eq_right (by omega),hdl]; congr 1; omega
 refine gU.enter Try.func74 rfl rfl rfl rfl ?_
 refine WC.seq ?_
 refine WC.region ?_
 refine WO.v (R.assign rfl) rfl ?_
 refine WO.nil ?_
 refine WX.next ?_
 refine WC.seq ?_
 refine WC.region ?_
 refine WO.v (R.move rfl) rfl ?_
 refine WO.v (R.move rfl) rfl ?_
 refine WO.v (R.cd rfl rfl Try.underlying23 cj rfl (by omega)) rfl ?_
 refine WO.nil ?_
 refine WX.next ?_
 refine WC.seq ?_
 refine WC.region ?_
 refine WO.v (R.move rfl) rfl ?_
 refine WO.v (R.len rfl Try.underlying23) rfl ?_
 refine WO.v (R.assign rfl) rfl ?_
 refine WO.nil ?_
 refine WX.next ?_
 refine WC.seq ?_
 refine WC.seq ?_
 refine WC.region ?_
 refine WO.v (R.move rfl) rfl ?_
 refine WO.v (R.eql rfl rfl) rfl ?_
 refine WO.nil ?_
 refine WX.next ?_
 refine WC.cond rfl (fun q=>absurd (of_decide_eq_true q) (by omega)) (fun _=>?_)
 refine WC.skip ?_
 refine WX.next ?_
 refine WC.seq ?_
 refine WC.region ?_
 refine WO.v (R.move rfl) rfl ?_
 refine WO.v (R.len rfl Try.underlying23) rfl ?_
 refine WO.v (R.assign rfl) rfl ?_
 refine WO.nil ?_
 refine WX.next ?_
 refine WC.seq ?_
 refine WC.seq ?_
 refine WC.region ?_
 refine WO.v (R.move rfl) rfl ?_
 refine WO.v (R.move rfl) rfl ?_
 refine WO.v (R.eql rfl rfl) rfl ?_
 refine WO.nil ?_
 refine WX.next ?_
 refine WC.cond rfl (fun q=>absurd (of_decide_eq_true q) (by omega)) (fun _=>?_)
 refine WC.skip ?_
 refine WX.next ?_
 refine WC.seq ?_
 refine WC.seq ?_
 refine WC.region ?_
 refine WO.v (R.move rfl) rfl ?_
 refine WO.v (R.move rfl) rfl ?_
 refine WO.v (R.jm rfl rfl (by omega)) rfl ?_
 refine WO.v (R.move rfl) rfl ?_
 refine WO.v (R.Cn rfl Try.underlying23) rfl ?_
 refine WO.v (R.gtr rfl rfl) rfl ?_
 refine WO.nil ?_
 refine WX.next ?_
 refine WC.cond rfl (fun q=>absurd (of_decide_eq_true q) (by omega)) (fun _=>?_)
 refine WC.skip ?_
 refine WX.next ?_
 refine WC.seq ?_
 refine WC.region ?_
 refine WO.v (R.move rfl) rfl ?_
 refine WO.v (R.move rfl) rfl ?_
 refine WO.v (R.move rfl) rfl ?_
 refine WO.v (R.jm rfl rfl (by omega)) rfl ?_
 refine WO.v (R.jN rfl rfl Try.underlying23 cj (dw (i:=0) (by omega)) (by omega)) rfl ?_
 refine WO.v (R.assign rfl) rfl ?_
 refine WO.nil ?_
 refine WX.next ?_
 refine WC.seq ?_
 refine WC.seq ?_
 refine WC.region ?_
 refine WO.v (R.move rfl) rfl ?_
 refine WO.v (R.move rfl) rfl ?_
 refine WO.v (R.move rfl) rfl ?_
 refine WO.v (R.move rfl) rfl ?_
 refine WO.v (R.jm rfl rfl (by omega)) rfl ?_
 refine WO.v (R.cd rfl rfl Try.underlying23 cj (dw (by omega)) (by omega)) rfl ?_
 refine WO.v (R.Iv (tS:=23) (tR:=4) Try.func97 rfl rfl (by kernel_rfl) (by kernel_rfl) Try.underlying23 cj hne hvb hvb0 hrow rfl rfl) rfl ?_
 refine WO.v (R.not rfl) rfl ?_
 refine WO.nil ?_
 refine WX.next ?_
 refine WC.zC rfl ?_
 refine WC.seq ?_
 refine WC.nK gf [.ex [] (.slice (some ⟨g,0,none⟩) (n+1) c),.ex [] (.int .i64 ((i:Nat):Int)),.ex [] (.int .i64 ((1:Nat):Int)),.ex [1,2] (.int .i64 ((i+1:Nat):Int)),.ex [0,3] (.slice (some ⟨g,(i+1)*2,none⟩) (n+1 - (i+1)) (c - (i+1))),.ex [] (.slice (some ⟨g,0,none⟩) (n+1) c),.ex [] (.int .i64 ((i:Nat):Int)),.ex [5,6] (.slice (some ⟨g,i*2,none⟩) (n+1 - i) (c - i))] 8 (by kernel_rfl) ⟨fun _ _ _ h _=>h,fun _ _ _ h _=>h,fun _ _ _ h _=>h,fun _ _ _ h _=>h,fun _ _ _ h _=>h,fun _ _ _ h _=>h,fun _ _ _ h _=>h,fun _ _ _ h _=>h,trivial⟩ ⟨?_,?_,?_,?_,?_,?_,?_,?_,trivial⟩ ?_
 ·rintro vs wd kd ⟨-⟩
  refine WO.bt (fr':=[(0,.slice (some ⟨g,0,none⟩) (n+1) c)]) ⟨⟨_,rfl,rfl⟩,trivial⟩ ?_
  refine WO.v (R.move rfl) rfl ?_
  refine WO.nil ?_
  exact WX.aH rfl rfl (Kp.refl _)
 ·rintro vs wd kd ⟨-⟩
  refine WO.bt (fr':=[(1,.int .i64 ((i:Nat):Int))]) ⟨⟨_,rfl,rfl⟩,trivial⟩ ?_
  refine WO.v (R.move rfl) rfl ?_
  refine WO.nil ?_
  exact WX.aH rfl rfl (Kp.refl _)
 ·rintro vs wd kd ⟨-⟩
  refine WO.bt (fr':=[(7,.int .i64 ((1:Nat):Int))]) ⟨⟨_,rfl,rfl⟩,trivial⟩ ?_
  refine WO.v (R.move rfl) rfl ?_
  refine WO.nil ?_
  exact WX.aH rfl rfl (Kp.refl _)
 ·rintro vs wd kd ⟨e1,e2,-⟩
  refine WO.bt (fr':=[(70,.int .i64 ((i:Nat):Int)),(71,.int .i64 ((1:Nat):Int))]) ⟨⟨_,rfl,e1⟩,⟨_,rfl,e2⟩,trivial⟩ ?_
  refine WO.v (R.jm rfl rfl (by omega)) rfl ?_
  refine WO.nil ?_
  exact WX.aH rfl rfl (Kp.refl _)
 ·rintro vs wd kd ⟨e0,e3,-⟩
  refine WO.bt (fr':=[(69,.slice (some ⟨g,0,none⟩) (n+1) c),(72,.int .i64 ((i+1:Nat):Int))]) ⟨⟨_,rfl,e0⟩,⟨_,rfl,e3⟩,trivial⟩ ?_
  refine WO.v (R.cd rfl rfl Try.underlying23 cj (dw (by omega)) (by omega)) rfl ?_
  refine WO.nil ?_
  exact WX.aH rfl rfl (Kp.refl _)
 ·rintro vs wd kd ⟨-⟩
  refine WO.bt (fr':=[(0,.slice (some ⟨g,0,none⟩) (n+1) c)]) ⟨⟨_,rfl,rfl⟩,trivial⟩ ?_
  refine WO.v (R.move rfl) rfl ?_
  refine WO.nil ?_
  exact WX.aH rfl rfl (Kp.refl _)
 ·rintro vs wd kd ⟨-⟩
  refine WO.bt (fr':=[(1,.int .i64 ((i:Nat):Int))]) ⟨⟨_,rfl,rfl⟩,trivial⟩ ?_
  refine WO.v (R.move rfl) rfl ?_
  refine WO.nil ?_
  exact WX.aH rfl rfl (Kp.refl _)
 ·rintro vs wd kd ⟨e5,e6,-⟩
  refine WO.bt (fr':=[(74,.slice (some ⟨g,0,none⟩) (n+1) c),(75,.int .i64 ((i:Nat):Int))]) ⟨⟨_,rfl,e5⟩,⟨_,rfl,e6⟩,trivial⟩ ?_
  refine WO.v (R.cd rfl rfl Try.underlying23 cj (dw (by omega)) (by omega)) rfl ?_
  refine WO.nil ?_
  exact WX.aH rfl rfl (Kp.refl _)
 rintro vsx w1 k1 ⟨-,-,-,-,e4,-,-,e7,-⟩
 replace k1:Kp [] w w1:=k1
 refine WO.bt (fr':=[(73,.slice (some ⟨g,(i+1)*2,none⟩) (n+1 - (i+1)) (c - (i+1))),(76,.slice (some ⟨g,i*2,none⟩) (n+1 - i) (c - i)),(0,.slice (some ⟨g,0,none⟩) (n+1) c),(1,.int .i64 ((i:Nat):Int)),(2,.slice (some ad) 1 vc)]) ⟨⟨_,rfl,e4⟩,⟨_,rfl,e7⟩,⟨_,rfl,rfl⟩,⟨_,rfl,rfl⟩,⟨_,rfl,rfl⟩,trivial⟩ ?_
 have hg1:w1.heap[g]? = some (.cells (List.toArray cur) 51 (0,0)):=by rw [k1.block g (a_ hrow) (by simp)]; exact hrow
 refine WO.v (R.kx rfl rfl Try.underlying23 cj hg1 hn2 (hd.kp k1 (a_ hrow) (by simp)) (by omega) h1d) rfl ?_
 refine WO.nil ?_
 refine WX.next ?_
 have hg2:(w1.setRow g (cur.take ((i+1)*2)++ds++cur.drop ((i+1)*2+ds.length)).toArray).heap[g]? = some (.cells (List.toArray (cur.take ((i+1)*2)++ds++cur.drop ((i+1)*2+ds.length))) 51 (0,0)):=setRow_heap w1 g _ _ 51 _ hg1
 have hv2:CellsAt (w1.setRow g (cur.take ((i+1)*2)++ds++cur.drop ((i+1)*2+ds.length)).toArray) ad vs:=(hv.kp k1 (a_ hvb) (by simp)).kp (Kp.setRow w1 g _) (Nat.lt_of_lt_of_le (a_ hvb) k1.size) (by simpa using fun h=>hne h.symm)
 refine WC.seq ?_
 refine WC.region ?_
 refine WO.v (R.move rfl) rfl ?_
 refine WO.v (R.move rfl) rfl ?_
 refine WO.v (R.cd rfl rfl Try.underlying23 cj (dw (by omega)) (by omega)) rfl ?_
 refine WO.v (R.move rfl) rfl ?_
 refine WO.v (R.kx rfl rfl Try.underlying23 cj hg2 hn1 hv2 (by simp only [List.length_append,List.length_take,List.length_drop]; omega) h1v) rfl ?_
 refine WO.nil ?_
 refine WX.next ?_
 refine WC.seq ?_
 refine WC.region ?_
 refine WO.v (R.move rfl) rfl ?_
 refine WO.v (R.assign rfl) rfl ?_
 refine WO.nil ?_
 refine WX.next ?_
 refine WC.ret ?_
 refine WX.gK ?_
 refine WX.tp rfl rfl ?_
 exact ⟨rfl,w1,k1,rfl⟩
theorem tH {G:Gl} {ρ:List RE} {H:AH} {w:World} (hs:G.shp=aw aJ) (hR:Rep G ρ H w) {l m:List (den (.nm .opn))} (hH:getO H 0 = .row 51 (.nm .opn) l) (hl:l.length<1048576) {i:Nat} (hi:i<=l.length) {v0:Value} (h0:Rd (cx G ρ w) ρ (.own 0) v0)
  {ad:Addr} {k:Nat} {cys:List Value} {bAV:AV} (hm:m.length=1) (hb:Rd (cx G ρ w) ρ bAV (.slice (some ad) 1 k)) (hbv:(bAV.vw H).fp (.nm .opn)=some m) (hv:CellsAt w ad cys) (hvl:cys.length=2) (h1v:∀ u ∈ cys,u.oneCell' = true) (hp:Pds (cx G ρ w) (m.flatMap (cellsOf (.nm .opn))) cys)
  (hne:∀ g c n z,ρ[0]? = some (.row g c n z)->ad.block≠g) {curA:Array Value} {tA:TypeId} {fA:Nat × Nat} (hvb:w.heap[ad.block]? = some (.cells curA tA fA)) (hvb0:curA.size≠0) :
  gU Try.prog 74 [v0,.int .i64 (i:Int),.slice (some ad) 1 k].toArray w fun v w'=>∃ ρ',Stp (wi 0) ρ w ρ' w' /\ Rep G ρ' ((eC (AV.kill 0) H).set 0 (.row 51 (.nm .opn) (l.take i++m++l.drop i))) w' /\ Rd (cx G ρ' w') ρ' (.own 0) v:=by
 have hT:bn Try.prog G.shp aJ:=hs ▸ fY
 obtain ⟨hshp,hlen⟩:=cY hR hH
 have hl64:l.length<=9223372036854775807:=by omega
 have hin:((l.length:Nat):Int)<=9223372036854775807:=by omega
 by_cases hie:i=l.length
 ·subst hie
  have hc:∃ A c,v0 = .slice A l.length c:=by
   rcases h0 with ⟨g,cap,len,z,h1,rfl⟩ | ⟨h1,a,rfl⟩
   ·rcases bu hR hH with ⟨h2,_⟩ | ⟨g',cap',cells,sp,h2,_⟩
    ·rw [h1] at h2; cases h2
    ·rw [h1] at h2; cases h2; exact ⟨_,_,rfl⟩
   ·rcases bu hR hH with ⟨_,h2⟩ | ⟨g',cap',cells,sp,h2,_⟩
    ·subst h2; exact ⟨_,_,rfl⟩
    ·rw [h1] at h2; cases h2
  obtain ⟨A,c,rfl⟩:=hc
  refine sX fun F x y ty hx hy=>?_
  have happ:fI aJ (wi 0) ([]:AFr) H 23 (.own 0) bAV=some ⟨one (.own 0),[],(eC (AV.kill 0) H).set 0 (.row 51 (.nm .opn) (l++m)),[(l.length+m.length)*(Sh.nm NT.opn).bytes<=140737488355328],[]⟩:=by
   unfold fI
   rw [show br aJ 23=some ⟨.sl 51 (some (.nm .opn)),1,[.em true]⟩ from by kernel_rfl]
   simp only [hbv,hH]
   rfl
  obtain ⟨v,w',h1,ρ',h2,h3,_,h5,_⟩:=fG (P:=Try.prog) (n:=95) (F:=[]) (ty:=ty) (fr:=[]) (x:=.const (.slice A l.length c)) (y:=.const (.slice (some ad) 1 k)) hT hR .nil happ (by
   intro p hp
   rw [List.mem_singleton] at hp; subst hp
   show (l.length+m.length)*16<=_
   omega) h0 hb rfl rfl
  refine ⟨v,w',R.uo h1 hx hy,ρ',h2,?_,h5⟩
  rw [List.take_length,List.drop_length,List.append_nil]
  exact h3
 ·have hlt:i<l.length:=by omega
  rcases bu hR hH with ⟨_,h2⟩ | ⟨g,cap,cells,sp,hρ,hg,hpd,hsz,hcap,hmax⟩
  ·subst h2; simp at hlt
  obtain ⟨hnb,hil,hiH⟩:=jD hR hH
  have hv0:v0 = .slice (some ⟨g,0,none⟩) l.length cap:=by
   rcases h0 with ⟨g',cap',len,z,h1,rfl⟩ | ⟨h1,a,rfl⟩
   ·rw [hρ] at h1; cases h1; rfl
   ·rw [hρ] at h1; cases h1
  subst hv0
  have hz:(Sh.nm NT.opn).size=2:=rfl
  have hby:(Sh.nm NT.opn).bytes=16:=rfl
  have hcl:cells.length=l.length*2:=by rw [<- hpd.length,bH,hz]
  rw [hz,List.length_append] at hsz
  have hone:∀ u ∈ cells.drop (i*2),u.oneCell' = true:=fun u hu=>hpd.zV u (List.mem_of_mem_drop hu)
  have hd:CellsAt w ⟨g,i*2,none⟩ (cells.drop (i*2)):=by
   have:=(bV hg).shift (i*2)
   rwa [add_lit,Nat.zero_add] at this
  have hdl:(cells.drop (i*2)).length=(l.length - i)*2:=by rw [List.length_drop,hcl]; omega
  have hgl:=a_ hg
  have hzl:(l.take i++m++l.drop i).length=l.length+1:=by
   rw [List.length_append,List.length_append,List.length_take,List.length_drop,hm]; omega
  have hnew:∀ {c:Cx},(cx G ρ w).le c->Pds c ((l.take i++m++l.drop i).flatMap (cellsOf (.nm .opn))) (cells.take (i*2)++cys++cells.drop (i*2)):=fun {c} hle=>by
   rw [List.flatMap_append,List.flatMap_append]
   exact (((bD hpd i).append hp).append (bL hpd i)).carry hle
  have hnl:(cells.take (i*2)++cys++cells.drop (i*2)).length=(l.length+1)*2:=by
   rw [List.length_append,List.length_append,List.length_take,List.length_drop,hcl,hvl]; omega
  have hbig:(l.take i++m++l.drop i).length*(Sh.nm NT.opn).bytes<=140737488355328:=by rw [hzl,hby]; omega
  -- what is shown of any way
  have fin:∀ (S:List Nat) (g2 cap2:Nat) (sp2:List Value) (w':World),Kp S w w' -> (∀ b ∈ S,b=g)->(g2=g\/w.heap.size<=g2)->w'.heap[g2]? = some (.cells (List.toArray (cells.take (i*2)++cys++cells.drop (i*2)++sp2)) 51 (0,0))->(l.length+1)*2+sp2.length=cap2*2->l.length+1<=cap2->cap2<=maxLen ->
    ∃ ρ',Stp (wi 0) ρ w ρ' w' /\ Rep G ρ' ((eC (AV.kill 0) H).set 0 (.row 51 (.nm .opn) (l.take i++m++l.drop i))) w' /\ Rd (cx G ρ' w') ρ' (.own 0) (.slice (some ⟨g2,0,none⟩) (l.length+1) cap2):=by
   intro S g2 cap2 sp2 w' hk hS hg2 hh hlen2 hle2 hmax2
   obtain ⟨k1,k2,_⟩:=iP (ro:=wi 0) (s':=.nm .opn) (e':=51) (zs:=l.take i++m++l.drop i) hR hH ⟨rfl,rfl⟩ hk (fun b hb=>⟨_,hρ,by rw [hS b hb]; rfl⟩) (r':=.row g2 cap2 (l.take i++m++l.drop i).length (Sh.nm NT.opn).size) (fun b hb=>by
    cases hb
    rcases hg2 with rfl | hg2
    ·exact .inl ⟨_,hρ,rfl⟩
    ·exact .inr ⟨hg2,a_ hh⟩) (fun hle=>⟨hshp,hbig,.inr ⟨g2,cap2,_,sp2,rfl,hh,hnew hle,by rw [List.length_append,hnl,hz]; exact hlen2,by rw [hzl]; exact hle2,hmax2⟩⟩)
   exact ⟨_,k1,k2,.inl ⟨g2,cap2,_,_,List.getElem?_set_self hil,by rw [hzl]⟩⟩
  have eo:(i+1)*2=i*2+2:=by omega
  by_cases hroom:l.length+1<=cap
  ·refine (pO hlt hroom hmax hg (by rw [List.length_append]; omega) hv hvb hvb0 (hne _ _ _ _ hρ) hvl hd hdl h1v hone).mono fun v w' ⟨e1,w1,k1,e2⟩=>?_
   subst e1; subst e2
   rw [eo,Dp (by omega) hvl]
   have hk:Kp [g] w ((w1.setRow g ((cells++sp).take (i*2+2)++cells.drop (i*2)++(cells++sp).drop (i*2+2+(cells.drop (i*2)).length)).toArray).setRow g (cells.take (i*2)++cys++cells.drop (i*2)++sp.drop 2).toArray):=((k1.sub (by simp)).step (Kp.setRow w1 g _) (by simp)).step (Kp.setRow _ g _) (by simp)
   have hg1:w1.heap[g]? = some (.cells (List.toArray (cells++sp)) 51 (0,0)):=by rw [k1.block g hgl (by simp)]; exact hg
   exact fin [g] g cap (sp.drop 2) _ hk (by simp) (.inl rfl) (setRow_heap _ g _ _ 51 _ (setRow_heap w1 g _ _ 51 _ hg1)) (by rw [List.length_drop]; omega) hroom hmax
  ·obtain ⟨ti,hi0,hz0,hz1,hz2⟩:=info_parts vK
   have eik:i+(l.length+1 - i)=l.length+1:=by omega
   have hge:=grownCap_ge w (l.length+1) cap 51
   have hgm:=grownCap_le_maxLen w (l.length+1) cap 51 (by simp [maxLen]; omega)
   have hold:(Builtin.firstCells ti.size i (.slice (some ⟨g,0*2,none⟩) i cap)).run Try.prog w.drew = .ok (cells.take (i*2)).toArray w.drew:=by
    have h:=run_loadCells_list (P:=Try.prog) w.drew ⟨g,0*2,none⟩ (cells.take (i*2)) (by rw [Nat.zero_mul]; exact (bV hg).take _)
    rw [List.length_take,Nat.min_eq_left (by omega)] at h
    rw [hz1]; exact h
   have happ:∀ (F:Fr) (x y:Operand) (ty:TypeId),ev F x=some (.slice (some ⟨g,0*2,none⟩) i cap)->ev F y=some (.int .i64 ((l.length+1 - i:Nat):Int))->aL Try.prog 95 F w (.call { callee:=.builtin .append,args:=#[x,y],argTypes:=#[23,3] }) ty (.slice (some ⟨w.heap.size,0,none⟩) (l.length+1) (grownCap w (l.length+1) cap 51)) (w.drew.alloc (.cells (List.toArray (cells.take (i*2)++((Builtin.zeroCells (Value.agg #[.int .i64 0,.int .i64 0]).cells (l.length+1 - i)).toList++(Builtin.zeroCells (Value.agg #[.int .i64 0,.int .i64 0]).cells (grownCap w (l.length+1) cap 51 - (l.length+1))).toList))) 51)):=fun F x y ty hx hy=>by
    have h:=R.GH (P:=Try.prog) (n:=95) (ty:=ty) hx hy Try.underlying23 Try.underlying3 hi0 hz0 hold (by omega) (by rw [hz1]; decide) (by omega) (by omega) (by rw [hz2]; omega) (by rw [hz2,eik]; exact growslice_fits (by omega) (by omega))
    rw [eik] at h
    have e:∀ (a:List Value) (b c:Array Value),a.toArray++b++c=(a++(b.toList++c.toList)).toArray:=fun a b c=>by apply Array.ext'; simp
    rw [e] at h
    exact h
   have hcurl:(cells.take (i*2)++((Builtin.zeroCells (Value.agg #[.int .i64 0,.int .i64 0]).cells (l.length+1 - i)).toList++(Builtin.zeroCells (Value.agg #[.int .i64 0,.int .i64 0]).cells (grownCap w (l.length+1) cap 51 - (l.length+1))).toList)).length=grownCap w (l.length+1) cap 51*2:=by
    rw [List.length_append,List.length_append,List.length_take,mB,mB]
    show min _ _+((l.length+1 - i)*2+(grownCap w (l.length+1) cap 51 - (l.length+1))*2)=_
    omega
   have htk:(cells.take (i*2)++((Builtin.zeroCells (Value.agg #[.int .i64 0,.int .i64 0]).cells (l.length+1 - i)).toList++(Builtin.zeroCells (Value.agg #[.int .i64 0,.int .i64 0]).cells (grownCap w (l.length+1) cap 51 - (l.length+1))).toList)).take (i*2)=cells.take (i*2):=List.take_left' (by rw [List.length_take]; omega)
   generalize grownCap w (l.length+1) cap 51=GC at *
   generalize cells.take (i*2)++((Builtin.zeroCells (Value.agg #[.int .i64 0,.int .i64 0]).cells (l.length+1 - i)).toList++(Builtin.zeroCells (Value.agg #[.int .i64 0,.int .i64 0]).cells (GC - (l.length+1))).toList)=cur at *
   have hK1:Kp [] w (w.drew.alloc (.cells (List.toArray cur) 51)):=((Kp.refl w).drew).step (Kp.alloc w.drew _) (by simp)
   have hrow:(w.drew.alloc (.cells (List.toArray cur) 51)).heap[w.heap.size]? = some (.cells (List.toArray cur) 51 (0,0)):=heap_alloc_new w.drew _
   generalize w.drew.alloc (.cells (List.toArray cur) 51)=W1 at *
   refine (rm hlt hcap (by omega) hmax hge hgm happ hrow (by omega) (hv.kp hK1 (a_ hvb) (by simp)) hvl (hd.kp hK1 hgl (by simp)) (by omega) (Nat.lt_of_lt_of_le hgl hK1.size) hdl h1v hone).mono fun v w' ⟨e1,w1,k1,e2⟩=>?_
   subst e1; subst e2
   rw [eo,Di (cells:=cells) (by omega) hvl htk]
   have hs1:∀ b ∈ [w.heap.size],b ∈ ([]:List Nat)\/w.heap.size<=b:=fun b hb=>.inr (by rw [List.mem_singleton] at hb; omega)
   have hk:Kp [] w (w1.setRow w.heap.size (cells.take (i*2)++cys++cells.drop (i*2)++cur.drop (i*2+2+(cells.drop (i*2)).length)).toArray):=((hK1.step (Kp.setRow W1 w.heap.size _) hs1).step k1 (by simp)).step (Kp.setRow w1 w.heap.size _) hs1
   have hg1:=(k1.block w.heap.size (by simpa using a_ hrow) (by simp)).trans (setRow_heap W1 w.heap.size _ (cur.take (i*2)++cys++cur.drop (i*2+cys.length)).toArray 51 _ hrow)
   exact fin [] w.heap.size GC _ _ hk (by simp) (.inr (Nat.le_refl _)) (setRow_heap w1 w.heap.size _ _ 51 _ hg1) (by rw [List.length_drop]; omega) hge hgm
theorem qh (i:Int) (l m:List (den (.nm .opn))) (h:0<=i/\i<=(l.length:Int)) (hl:l.length<1048576) (hm:m.length=1):Sat Try.prog (aw aJ) 74 [.c (.own 0),.c (.int i),.c (.fz (.nm .opn) m)] [.row 51 (.nm .opn) l] ⟨[0<=i/\i<=(l.length:Int),l.length<1048576,m.length=1],[.c (.own 0)],some [.row 51 (.nm .opn) (l.take i.toNat++m++l.drop i.toNat)],false⟩:=by
 refine ⟨⟨_,Try.func74,by decide,rfl⟩,fun G ρ w vs hs hR hvs=>?_⟩
 obtain ⟨i,rfl⟩:=Int.eq_ofNat_of_zero_le h.1
 cases hvs with | cons h0 hvs=>
 cases hvs with | cons h1 hvs=>
 cases hvs with | cons h2 hvs=>
 cases hvs
 have h1:Pd (cx G ρ w) (.int (i:Int)) _:=h1
 cases h1
 have h0:Rd (cx G ρ w) ρ (.own 0) _:=h0
 have h2:Rd (cx G ρ w) ρ (.fz (.nm .opn) m) _:=h2
 have hH:getO [AO.row 51 (.nm .opn) l] 0 = .row 51 (.nm .opn) l:=rfl
 have hbv:(AV.vw [AO.row 51 (.nm .opn) l] (.fz (.nm .opn) m)).fp (.nm .opn)=some m:=by simp [AV.vw,AV.fp,getO]
 obtain ⟨A,k,cys,rfl,s1,s2,s3,s4⟩:=lN hR hbv h2
 rw [hm] at h2 s1 s3
 rw [hm]
 obtain ⟨ad,rfl,s5⟩:∃ ad,A=some ad/\CellsAt w ad cys:=s3.resolve_left (by decide)
 have hz:(Sh.nm NT.opn).size=2:=rfl
 rw [hz] at s1
 obtain ⟨u,hu⟩:∃ u,cys[0]? = some u:=⟨_,List.getElem?_eq_getElem (by omega)⟩
 obtain ⟨cur,t,f,hc,hc0⟩:=oE (s5 0 u hu)
 have hne:∀ g c n z,ρ[0]? = some (.row g c n z)->ad.block≠g:=fun g c n z hg e=>by
  have h2:Pd (cx G ρ w) (.fz (.nm .opn) m) (.slice (some ad) 1 k):=h2
  have h3:=DK h2 (by rw [hm]; decide)
  exact h3.1.2.1 ⟨0,_,hg,by rw [e]; rfl⟩
 rw [eR] at hc
 refine (tH hs hR hH hl (by omega) h0 hm h2 hbv s5 s1 s2 s4 hne hc hc0).mono fun v w' ⟨ρ',k1,k2,k3⟩=>?_
 exact ⟨[v],rfl,ρ',k2,k1.ext,k1.bx,.cons k3 .nil,fun hb=>by cases hb⟩
theorem xG:(Builtin.zeroCells (Value.agg #[.int .i64 0,.int .i64 0]).cells 1).toList=[.int .i64 0,.int .i64 0]:=by kernel_rfl
set_option maxRecDepth 100000 in
set_option maxHeartbeats 1000000 in
theorem x_ {w:World} {g n i c:Nat} {cur ds:List Value} {ti:TypeInfo} (hi:i<n) (hnc:n<=c) (hcm:c<=maxLen) (hg:w.heap[g]? = some (.cells cur.toArray 51 (0,0))) (hcur:n*2<=cur.length) (hdl:ds.length=(n - (i+1))*2) (hd:CellsAt w (if c=i+1 then ⟨g,0,none⟩ else (⟨g,0,none⟩:Addr).add ((i+1)*2)) ds) (h1d:∀ u ∈ ds,u.oneCell' = true)
  (hi0:Try.prog.info? 51=some ti) (hz0:ti.zero=some (.agg #[.int .i64 0,.int .i64 0])) (hz1:ti.size=2) :
  gU Try.prog 77 [.slice (some ⟨g,0,none⟩) n c,.int .i64 (i:Int),.int .i64 ((i+1:Nat):Int)].toArray w fun v w'=>v = .slice (some ⟨g,0,none⟩) (i+(n - (i+1))) c/\∃ w1,Kp [] w w1/\w' = (w1.setRow g (cur.take (i*ti.size)++ds++cur.drop (i*ti.size+ds.length)).toArray).setRow g ((cur.take (i*ti.size)++ds++cur.drop (i*ti.size+ds.length)).take ((i+(n - (i+1)))*2)++(Builtin.zeroCells (Value.agg #[.int .i64 0,.int .i64 0]).cells 1).toList++(cur.take (i*ti.size)++ds++cur.drop (i*ti.size+ds.length)).drop ((i+(n - (i+1)))*2+(Builtin.zeroCells (Value.agg #[.int .i64 0,.int .i64 0]).cells 1).toList.length)).toArray:=by
 have hcm:c<=9223372036854775807:=hcm
 refine gU.enter Try.func77 rfl rfl rfl rfl ?_
 refine WC.seq ?_
 refine WC.region ?_
 refine WO.v (R.assign rfl) rfl ?_
 refine WO.nil ?_
 refine WX.next ?_
 refine WC.seq ?_
 refine WC.region ?_
 refine WO.v (R.move rfl) rfl ?_
 refine WO.v (R.move rfl) rfl ?_
 refine WO.v (R.move rfl) rfl ?_
 refine WO.v (R.move rfl) rfl ?_
 refine WO.v (R.len rfl Try.underlying23) rfl ?_
 refine WO.v (R.slice3 rfl rfl rfl rfl Try.underlying23 cj (by omega) (by omega) (by omega)) rfl ?_
 refine WO.nil ?_
 refine WX.next ?_
 refine WC.seq ?_
 refine WC.seq ?_
 refine WC.region ?_
 refine WO.v (R.move rfl) rfl ?_
 refine WO.v (R.move rfl) rfl ?_
 refine WO.v (R.eql rfl rfl) rfl ?_
 refine WO.nil ?_
 refine WX.next ?_
 refine WC.cond rfl (fun q=>absurd (of_decide_eq_true q) (by omega)) (fun _=>?_)
 refine WC.skip ?_
 refine WX.next ?_
 refine WC.seq ?_
 refine WC.region ?_
 refine WO.v (R.move rfl) rfl ?_
 refine WO.v (R.len rfl Try.underlying23) rfl ?_
 refine WO.v (R.assign rfl) rfl ?_
 refine WO.nil ?_
 refine WX.next ?_
 refine WC.seq ?_
 refine WC.nK gf [.ex [] (.slice (some ⟨g,0,none⟩) n c),.ex [] (.int .i64 ((i:Nat):Int)),.ex [0,1] (.slice (some ⟨g,0*2,none⟩) (i - 0) (c - 0)),.ex [] (.slice (some ⟨g,0,none⟩) n c),.ex [] (.int .i64 ((i+1:Nat):Int)),.ex [3,4] (.slice (some (if c=i+1 then ⟨g,0,none⟩ else (⟨g,0,none⟩:Addr).add ((i+1)*2))) (n - (i+1)) (c - (i+1)))] 6 (by kernel_rfl) ⟨fun _ _ _ h _=>h,fun _ _ _ h _=>h,fun _ _ _ h _=>h,fun _ _ _ h _=>h,fun _ _ _ h _=>h,fun _ _ _ h _=>h,trivial⟩ ⟨?_,?_,?_,?_,?_,?_,trivial⟩ ?_
 ·rintro vs wd kd ⟨-⟩
  refine WO.bt (fr':=[(0,.slice (some ⟨g,0,none⟩) n c)]) ⟨⟨_,rfl,rfl⟩,trivial⟩ ?_
  refine WO.v (R.move rfl) rfl ?_
  refine WO.nil ?_
  exact WX.aH rfl rfl (Kp.refl _)
 ·rintro vs wd kd ⟨-⟩
  refine WO.bt (fr':=[(1,.int .i64 ((i:Nat):Int))]) ⟨⟨_,rfl,rfl⟩,trivial⟩ ?_
  refine WO.v (R.move rfl) rfl ?_
  refine WO.nil ?_
  exact WX.aH rfl rfl (Kp.refl _)
 ·rintro vs wd kd ⟨e0,e1,-⟩
  refine WO.bt (fr':=[(20,.slice (some ⟨g,0,none⟩) n c),(21,.int .i64 ((i:Nat):Int))]) ⟨⟨_,rfl,e0⟩,⟨_,rfl,e1⟩,trivial⟩ ?_
  refine WO.v (R.jN rfl rfl Try.underlying23 cj (dw (i:=0) (by omega)) (by omega)) rfl ?_
  refine WO.nil ?_
  exact WX.aH rfl rfl (Kp.refl _)
 ·rintro vs wd kd ⟨-⟩
  refine WO.bt (fr':=[(0,.slice (some ⟨g,0,none⟩) n c)]) ⟨⟨_,rfl,rfl⟩,trivial⟩ ?_
  refine WO.v (R.move rfl) rfl ?_
  refine WO.nil ?_
  exact WX.aH rfl rfl (Kp.refl _)
 ·rintro vs wd kd ⟨-⟩
  refine WO.bt (fr':=[(2,.int .i64 ((i+1:Nat):Int))]) ⟨⟨_,rfl,rfl⟩,trivial⟩ ?_
  refine WO.v (R.move rfl) rfl ?_
  refine WO.nil ?_
  exact WX.aH rfl rfl (Kp.refl _)
 ·rintro vs wd kd ⟨e3,e4,-⟩
  refine WO.bt (fr':=[(23,.slice (some ⟨g,0,none⟩) n c),(24,.int .i64 ((i+1:Nat):Int))]) ⟨⟨_,rfl,e3⟩,⟨_,rfl,e4⟩,trivial⟩ ?_
  refine WO.v (R.cd rfl rfl Try.underlying23 cj Fe (by omega)) rfl ?_
  refine WO.nil ?_
  exact WX.aH rfl rfl (Kp.refl _)
 rintro vsx w1 k1 ⟨-,-,e2,-,-,e5,-⟩
 replace k1:Kp [] w w1:=k1
 refine WO.bt (fr':=[(22,.slice (some ⟨g,0*2,none⟩) (i - 0) (c - 0)),(25,.slice (some (if c=i+1 then ⟨g,0,none⟩ else (⟨g,0,none⟩:Addr).add ((i+1)*2))) (n - (i+1)) (c - (i+1))),(7,.int .i64 ((n:Nat):Int))]) ⟨⟨_,rfl,e2⟩,⟨_,rfl,e5⟩,⟨_,rfl,rfl⟩,trivial⟩ ?_
 have hg1:w1.heap[g]? = some (.cells (List.toArray cur) 51 (0,0)):=by rw [k1.block g (a_ hg) (by simp)]; exact hg
 have hd1:CellsAt w1 (if c=i+1 then ⟨g,0,none⟩ else (⟨g,0,none⟩:Addr).add ((i+1)*2)) ds:=hd.keep (k1.block _ (by split <;> exact a_ hg) (by simp))
 refine WO.v (R.Cz (sl:=i) (sc:=c) rfl rfl Try.underlying23 hi0 hg1 (by rw [hz1]; exact hdl) hd1 h1d (by omega) (by rw [hz1]; omega)) rfl ?_
 refine WO.v (R.assign rfl) rfl ?_
 refine WO.nil ?_
 refine WX.next ?_
 have hg2:=setRow_heap w1 g _ (cur.take (i*ti.size)++ds++cur.drop (i*ti.size+ds.length)).toArray 51 _ hg1
 refine WC.seq ?_
 refine WC.region ?_
 refine WO.v (R.move rfl) rfl ?_
 refine WO.v (R.move rfl) rfl ?_
 refine WO.v (R.len rfl Try.underlying23) rfl ?_
 refine WO.v (R.move rfl) rfl ?_
 refine WO.v (R.vl rfl rfl rfl Try.underlying23 cj (dw (by omega)) (by omega) (by omega)) rfl ?_
 refine WO.v0 (R.II rfl (by omega) Try.underlying23 hi0 hz0 (by rw [xG]; simp [Value.oneCell']) hg2 (by rw [mB,hz1]; simp only [List.length_append,List.length_take,List.length_drop]; show _+1*2<=_; omega)) ?_
 refine WO.nil ?_
 refine WX.next ?_
 refine WC.seq ?_
 refine WC.region ?_
 refine WO.v (R.move rfl) rfl ?_
 refine WO.v (R.assign rfl) rfl ?_
 refine WO.nil ?_
 refine WX.next ?_
 refine WC.ret ?_
 refine WX.tp rfl rfl ?_
 exact ⟨rfl,w1,k1,rfl⟩
theorem sy (i j:Int) (l:List (den (.nm .opn))) (h:0<=i/\i<(l.length:Int)/\j=i+1):Sat Try.prog (aw aJ) 77 [.c (.own 0),.c (.int i),.c (.int j)] [.row 51 (.nm .opn) l] ⟨[0<=i/\i<(l.length:Int)/\j=i+1],[.c (.own 0)],some [.row 51 (.nm .opn) (l.take i.toNat++l.drop j.toNat)],false⟩:=by
 refine ⟨⟨_,Try.func77,by decide,rfl⟩,fun G ρ w vs hs hR hvs=>?_⟩
 obtain ⟨hi0,hi1,rfl⟩:=h
 obtain ⟨i,rfl⟩:=Int.eq_ofNat_of_zero_le hi0
 have hlt:i<l.length:=by omega
 cases hvs with | cons h0 hvs=>
 cases hvs with | cons h1 hvs=>
 cases hvs with | cons h2 hvs=>
 cases hvs
 have h1:Pd (cx G ρ w) (.int (i:Int)) _:=h1
 have h2:Pd (cx G ρ w) (.int ((i:Int)+1)) _:=h2
 cases h1
 cases h2
 have h0:Rd (cx G ρ w) ρ (.own 0) _:=h0
 have hH:getO [AO.row 51 (.nm .opn) l] 0 = .row 51 (.nm .opn) l:=rfl
 obtain ⟨hshp,hlen⟩:=cY hR hH
 rcases bu hR hH with ⟨_,h2⟩ | ⟨g,cap,cells,sp,hρ,hg,hpd,hsz,hcap,hmax⟩
 ·subst h2; simp at hlt
 obtain ⟨hnb,hil,hiH⟩:=jD hR hH
 have hz:(Sh.nm NT.opn).size=2:=rfl
 have hby:(Sh.nm NT.opn).bytes=16:=rfl
 have hcl:cells.length=l.length*2:=by rw [<- hpd.length,bH,hz]
 rw [hz,List.length_append] at hsz
 rw [hby] at hlen
 obtain ⟨ti,hi0,hz0,hz1,hz2⟩:=info_parts vK
 have hone:∀ u ∈ cells.drop ((i+1)*2),u.oneCell' = true:=fun u hu=>hpd.zV u (List.mem_of_mem_drop hu)
 have hd:CellsAt w (if cap=i+1 then ⟨g,0,none⟩ else (⟨g,0,none⟩:Addr).add ((i+1)*2)) (cells.drop ((i+1)*2)):=by
  split
  ·rw [List.drop_of_length_le (by omega)]; exact CellsAt.nil
  ·exact (bV hg).shift _
 have hv0:∀ v,Rd (cx G ρ w) ρ (.own 0) v->v = .slice (some ⟨g,0,none⟩) l.length cap:=fun v h0=>by
  rcases h0 with ⟨g',cap',len,z,h1,rfl⟩ | ⟨h1,a,rfl⟩
  ·rw [hρ] at h1; cases h1; rfl
  ·rw [hρ] at h1; cases h1
 obtain rfl:=hv0 _ h0
 have e0:((i:Int)+1)=((i+1:Nat):Int):=by omega
 rw [e0]
 refine (x_ hlt hcap hmax hg (by rw [List.length_append]; omega) (by rw [List.length_drop,hcl]; omega) hd hone hi0 hz0 hz1).mono fun v w' ⟨e1,w1,k1,e2⟩=>?_
 subst e1
 have hq:i+(l.length - (i+1))=l.length - 1:=by omega
 rw [hq,hz1,xG] at e2
 rw [hq]
 have hzl:(l.take i++l.drop (i+1)).length=l.length - 1:=by rw [List.length_append,List.length_take,List.length_drop]; omega
 have hnl:(cells.take (i*2)++cells.drop ((i+1)*2)).length=(l.length - 1)*2:=by rw [List.length_append,List.length_take,List.length_drop]; omega
 have htk:((cells++sp).take (i*2)++cells.drop ((i+1)*2)++(cells++sp).drop (i*2+(cells.drop ((i+1)*2)).length)).take ((l.length - 1)*2)=cells.take (i*2)++cells.drop ((i+1)*2):=by
  rw [List.take_append_of_le_length (l₁:=cells) (by omega)]
  exact List.take_left' hnl
 have hr1l:((cells++sp).take (i*2)++cells.drop ((i+1)*2)++(cells++sp).drop (i*2+(cells.drop ((i+1)*2)).length)).length=cap*2:=by
  simp only [List.length_append,List.length_drop,List.length_take]
  omega
 generalize (cells++sp).take (i*2)++cells.drop ((i+1)*2)++(cells++sp).drop (i*2+(cells.drop ((i+1)*2)).length)=r1 at e2 htk hr1l
 rw [htk,List.append_assoc] at e2
 generalize hsp2:([.int .i64 0,.int .i64 0]:List Value)++List.drop ((l.length - 1)*2+([.int .i64 0,.int .i64 0]:List Value).length) r1=sp2 at e2
 have hlen2:(l.length - 1)*2+sp2.length=cap*2:=by
  rw [<- hsp2]
  simp only [List.length_append,List.length_cons,List.length_nil,List.length_drop]
  omega
 have hg1:w1.heap[g]? = some (.cells (List.toArray (cells++sp)) 51 (0,0)):=by rw [k1.block g (a_ hg) (by simp)]; exact hg
 have hh:=setRow_heap _ g _ (cells.take (i*2)++cells.drop ((i+1)*2)++sp2).toArray 51 _ (setRow_heap w1 g _ r1.toArray 51 _ hg1)
 have hk:=((k1.sub (T:=[g]) (by simp)).step (Kp.setRow w1 g r1.toArray) (by simp)).step (Kp.setRow _ g (cells.take (i*2)++cells.drop ((i+1)*2)++sp2).toArray) (by simp)
 subst e2
 obtain ⟨k2,k3,_⟩:=iP (ro:=wi 0) (s':=.nm .opn) (e':=51) (zs:=l.take i++l.drop (i+1)) hR hH ⟨rfl,rfl⟩ hk (fun b hb=>⟨_,hρ,by rw [List.mem_singleton] at hb; subst hb; rfl⟩) (r':=.row g cap (l.take i++l.drop (i+1)).length (Sh.nm NT.opn).size) (fun b hb=>by
  cases hb; exact .inl ⟨_,hρ,rfl⟩) (fun hle=>⟨hshp,by rw [hzl,hby]; omega,.inr ⟨g,cap,_,sp2,rfl,hh,by
   rw [List.flatMap_append]; exact ((bD hpd i).append (bL hpd (i+1))).carry hle,by rw [List.length_append,hnl,hz]; exact hlen2,by omega,hmax⟩⟩)
 exact ⟨[_],rfl,_,k3,k2.ext,k2.bx,.cons (.inl ⟨g,cap,_,_,List.getElem?_set_self hil,by rw [hzl]⟩) .nil,fun hb=>by cases hb⟩
end Go.Proofs.Ytmmbibcfkdabeaa
namespace Go.Proofs.Ytmmbibcfkdabeaa
open Go.RowKit
def rD {β:Type} (z:β) (k:Int):List (Int × β)->β
 | []=>z
 | p :: r=>if k=p.1 then p.2 else rD z k r
end Go.Proofs.Ytmmbibcfkdabeaa
namespace Go.Proofs.Ytmmbibcfkdabeaa
open Go.RowKit
theorem aD {α:Type} {l:List α} {k:Nat} {x:α} (hx:l[k]? = some x):l.take (k+1)=l.take k++[x]:=by
 rw [List.take_add_one,hx]; rfl
end Go.Proofs.Ytmmbibcfkdabeaa
namespace Go.Proofs.Ytmmbibcfkdabeaa
open Go.RowKit
end Go.Proofs.Ytmmbibcfkdabeaa
namespace Go.Proofs.Ytmmbibcfkdabeaa
open Go.RowKit
def ba (n a b:Int):Bool:=decide (a<=n) && decide (n<=b)
def ai {α:Type} (key:α->Int) (most:Int):Int->List α->Bool
 | _,[]=>true
 | a,x :: r=>ba (key x) (a+1) most && ai key most (key x) r
def aX {α:Type} (key:α->Int) (a:Int) (l:List α):Int:=l.foldl (fun _ x=>key x) a
theorem dP {α:Type} {key:α->Int} {most:Int} {x:α}:∀ (p:List α) (a:Int),ai key most a (p++[x])=(ai key most a p && ba (key x) (aX key a p+1) most)
 | [],a=>by simp [ai,aX]
 | y :: p,a=>by
  rw [List.cons_append,ai,ai,dP p,Bool.and_assoc]; rfl
theorem gX {α:Type} {key:α->Int} {most:Int} (q:List α):∀ (p:List α) (a:Int),ai key most a (p++q)=true->ai key most a p=true
 | [],a,_=>rfl
 | y :: p,a,h=>by
  rw [List.cons_append,ai,Bool.and_eq_true] at h
  rw [ai,Bool.and_eq_true]
  exact ⟨h.1,gX q p _ h.2⟩
theorem bI {α:Type} {key:α->Int} {a:Int} {l:List α} {k:Nat} {x:α} (hx:l[k]? = some x):key x=aX key a (l.take (k+1)):=by
 rw [aD hx,aX,List.foldl_append]; rfl
theorem eZ {α:Type} {key:α->Int} {a:Int} {l:List α} {k:Nat} {x:α} (h:0<k) (hx:l[k - 1]? = some x):aX key a (l.take k)=key x:=by
 obtain ⟨j,rfl⟩:∃ j,k=j+1:=⟨k - 1,by omega⟩
 exact (bI (by simpa using hx)).symm
theorem gv {α:Type} {key:α->Int} {most a:Int} {l:List α} {k:Nat} {x:α} (h:ai key most a (l.take k)=true) (hx:l[k]? = some x) (h1:aX key a (l.take k)<key x) (h2:key x<=most):ai key most a (l.take (k+1))=true:=by
 rw [aD hx,dP,h,Bool.true_and,ba,Bool.and_eq_true,decide_eq_true_eq,decide_eq_true_eq]
 exact ⟨by omega,h2⟩
theorem kF {α:Type} {key:α->Int} {most a:Int} {l:List α} {k:Nat} {x:α} (hx:l[k]? = some x) (h:¬ (aX key a (l.take k)<key x/\key x<=most)):ai key most a l=false:=by
 cases hr:ai key most a l with
 | false=>rfl
 | true=>
  have h1:=gX (l.drop (k+1)) (l.take (k+1)) a (by rw [List.take_append_drop]; exact hr)
  rw [aD hx,dP,Bool.and_eq_true,ba,Bool.and_eq_true,decide_eq_true_eq,decide_eq_true_eq] at h1
  exact absurd ⟨by omega,h1.2.2⟩ h
theorem gp {α:Type} {key:α->Int} {most a:Int} {l:List α} {k:Nat} (h:ai key most a (l.take k)=true) (hk:l.length<=k):ai key most a l=true:=by
 rwa [List.take_of_length_le hk] at h
def cC (l:List Int):Bool:=(decide ((1:Int)<=((l.length:Nat):Int)) && decide (((l.length:Nat):Int)<=8)) && ai id 64 0 l
theorem gM {l:List Int} {k:Nat} {x:Int} (hx:l[k]? = some x) (h:¬ (aX id 0 (l.take k)<x/\x<=64)):false=cC l:=by
 rw [cC,kF (key:=id) hx h,Bool.and_false]
theorem jY {l:List Int} {k:Nat} (h:ai id 64 0 (l.take k)=true) (hk:l.length<=k):(decide ((1:Int)<=((l.length:Nat):Int)) && decide (((l.length:Nat):Int)<=8))=cC l:=by
 rw [cC,gp h hk,Bool.and_true]
theorem wv {l:List Int} {k:Nat} (h:ai id 64 0 (l.take k)=true):0<=aX id 0 (l.take k):=by
 by_cases hk:k=0
 ·subst hk; exact Int.le_refl _
 ·by_cases hl:k - 1<l.length
  ·have hx:=List.getElem?_eq_getElem hl
   rw [eZ (by omega) hx]
   have e:l.take k=l.take (k - 1)++[l[k - 1]]:=by
    have:=aD hx
    rwa [show k - 1+1=k by omega] at this
   rw [e,dP,Bool.and_eq_true,ba,Bool.and_eq_true,decide_eq_true_eq] at h
   have h0:∀ (p:List Int) (a:Int),0<=a->ai id 64 a p=true->0<=aX id a p:=by
    intro p
    induction p with
    | nil=>intro a ha _; exact ha
    | cons y p ih=>
     intro a ha hp
     rw [ai,Bool.and_eq_true,ba,Bool.and_eq_true,decide_eq_true_eq] at hp
     exact ih (id y) (by omega) hp.2
   have:=h0 _ _ (Int.le_refl 0) h.1
   omega
  ·have h0:∀ (p:List Int) (a:Int),0<=a->ai id 64 a p=true->0<=aX id a p:=by
    intro p
    induction p with
    | nil=>intro a ha _; exact ha
    | cons y p ih=>
     intro a ha hp
     rw [ai,Bool.and_eq_true,ba,Bool.and_eq_true,decide_eq_true_eq] at hp
     exact ih (id y) (by omega) hp.2
   exact h0 _ _ (Int.le_refl 0) h
theorem iq {l:List Int} {k:Nat} (h:ai id 64 0 (l.take k)=true) (hk:l.length<=k) (hl:1<=l.length/\l.length<=8):true=cC l:=by
 rw [cC,gp h hk,Bool.and_true]; symm; rw [Bool.and_eq_true,decide_eq_true_eq,decide_eq_true_eq]; omega
theorem lQ {l:List Int} (hl:¬ (1<=l.length/\l.length<=8)):false=cC l:=by
 symm
 rw [cC,Bool.and_eq_false_iff]; left
 rw [Bool.and_eq_false_iff,decide_eq_false_iff_not,decide_eq_false_iff_not]; omega
end Go.Proofs.Ytmmbibcfkdabeaa
namespace Go.Proofs.Ytmmbibcfkdabeaa
open Go.RowKit
def aN (x:Sess):Bool:=(ba x.seq 0 1048576 && ba x.last.code 0 99) && ba x.last.n 0 1048576
def aM (x:Opn):Bool:=ba x.client 1 8
theorem dC {α:Type} {p:α->Bool} {l:List α} {k:Nat} {x:α} (h:(l.take k).all p=true) (hx:l[k]? = some x) (hp:p x=true):(l.take (k+1)).all p=true:=by
 rw [aD hx,List.all_append,h]; simp [hp]
theorem xU {α:Type} {p:α->Bool} {l:List α} {k:Nat} {x:α} (hx:l[k]? = some x) (hp:p x=false):l.all p=false:=by
 rw [List.all_eq_false]; exact ⟨x,List.mem_of_getElem? hx,by simp [hp]⟩
theorem yB {α:Type} {p:α->Bool} {l:List α} {k:Nat} (h:(l.take k).all p=true) (hk:l.length<=k):l.all p=true:=by
 rwa [List.take_of_length_le hk] at h
end Go.Proofs.Ytmmbibcfkdabeaa
namespace Go.Proofs.Ytmmbibcfkdabeaa
open Go.RowKit
def aZ (n:Nat):Nat:=if h:n<128 then 1 else aZ (n / 128)+1
termination_by n
decreasing_by omega
theorem lR {n:Nat} (h:¬ n<128):aZ n=aZ (n / 128)+1:=by rw [aZ,dif_neg h]
theorem hU {n:Nat} (h:n<128):aZ n=1:=by rw [aZ,dif_pos h]
theorem gF (n:Nat):1<=aZ n:=by rw [aZ]; split <;> omega
theorem rV:∀ (k n:Nat),n<128 ^ (k+1)->aZ n<=k+1
 | 0,n,h=>by rw [hU (by simpa using h)]; omega
 | k+1,n,h=>by
  by_cases hn:n<128
  ·rw [hU hn]; omega
  ·rw [lR hn]
   have:=rV k (n / 128) (by rw [Nat.div_lt_iff_lt_mul (by omega),<- Nat.pow_succ]; exact h)
   omega
theorem mh {n:Nat} (h:n<18446744073709551616):aZ n<=10:=rV 9 n (Nat.lt_of_lt_of_le h (by decide))
def BQ (n i:Nat):UInt8:=UInt8.ofNat (n / 128 ^ i) ||| 128
def dB (n k:Nat):List UInt8:=(List.range k).map (BQ n)++List.replicate (aZ n - k) 0
def lI (n:Nat):List UInt8:=(dB n (aZ n)).set (aZ n - 1) (BQ n (aZ n - 1) &&& 127)
theorem fa {n k:Nat} (h:k<=aZ n):(dB n k).length=aZ n:=by simp [dB]; omega
theorem tr {n k:Nat} (h:k<aZ n):(dB n k).set k (BQ n k)=dB n (k+1):=by
 unfold dB
 rw [List.set_append_right _ _ (by simp),List.range_succ,List.map_append,List.append_assoc]
 congr 1
 obtain ⟨j,hj⟩:∃ j,aZ n - k=j+1:=⟨aZ n - k - 1,by omega⟩
 rw [hj,show aZ n - (k+1)=j by omega]
 simp [List.replicate_succ]
theorem iv (n:Nat):List.replicate (aZ n) (0:UInt8)=dB n 0:=by simp [dB]
theorem tP {n:Nat} {x:UInt8} (h:(dB n (aZ n))[aZ n - 1]? = some x):x=BQ n (aZ n - 1):=by
 have hp:=gF n
 unfold dB at h
 rw [List.getElem?_append_left (by simp; omega)] at h
 simp only [List.getElem?_map,List.getElem?_range (show aZ n - 1<aZ n by omega),Option.map_some,Option.some.injEq] at h
 exact h.symm
theorem div_pow {n k:Nat}:n / 128 ^ k / 2 ^ 7=n / 128 ^ (k+1):=by show n / 128 ^ k / 128=_; rw [Nat.div_div_eq_div_mul,Nat.pow_succ]
theorem yY (n:Nat):(lI n).length=aZ n:=by rw [lI,List.length_set,fa (Nat.le_refl _)]
theorem mu {n:Nat} (h:n<18446744073709551616):(lI n).length<=10:=by rw [yY]; exact mh h
def er (l:List Int):List UInt8:=l.flatMap fun x=>lI x.toNat
theorem jU {l:List Int} {k:Nat} {x:Int} (hx:l[k]? = some x):er (l.take k)++lI x.toNat=er (l.take (k+1)):=by
 rw [aD hx]; simp [er]
theorem AJ {l:List Int} (h:∀ x ∈ l,x<=64):(er l).length<=10*l.length:=by
 induction l with
 | nil=>simp [er]
 | cons a l ih=>
  have h1:=ih fun x hx=>h x (List.mem_cons_of_mem _ hx)
  have h2:=mu (n:=a.toNat) (by have:=h a (by simp); omega)
  simp only [er,List.flatMap_cons,List.length_append,List.length_cons] at *
  omega
theorem tu {l:List Int} (h:cC l=true):∀ x ∈ l,0<x/\x<=64:=by
 rw [cC,Bool.and_eq_true] at h
 have:∀ (l:List Int) (a:Int),0<=a->ai id 64 a l=true->∀ x ∈ l,0<x/\x<=64:=by
  intro l
  induction l with
  | nil=>intro a _ _ x hx; cases hx
  | cons y l ih=>
   intro a ha hl x hx
   rw [ai,Bool.and_eq_true,ba,Bool.and_eq_true,decide_eq_true_eq,decide_eq_true_eq] at hl
   have h1:a+1<=y:=hl.1.1
   have h2:y<=64:=hl.1.2
   rcases List.mem_cons.1 hx with rfl | hx
   ·omega
   ·exact ih (id y) (by show 0<=y; omega) hl.2 x hx
 exact this l 0 (by omega) h.2
theorem pQ {l:List Int} (h:cC l=true):1<=l.length/\l.length<=8:=by
 rw [cC,Bool.and_eq_true,Bool.and_eq_true,decide_eq_true_eq,decide_eq_true_eq] at h
 omega
def fO (l:List Int):List UInt8:=if cC l then er l else []
def cQ (l:List Int):Int:=if cC l then 0 else 1
theorem mG {l:List Int} {k:Nat} (hr:cC l=true) (hk:l.length<=k):er (l.take k)=fO l:=by rw [List.take_of_length_le hk,fO,if_pos hr]
theorem ke {l:List Int} (hr:cC l=false):[]=fO l:=by rw [fO,hr]; rfl
theorem eK {l:List Int} (hr:cC l=true):0=cQ l:=by rw [cQ,hr]; rfl
theorem fC {l:List Int} (hr:cC l=false):1=cQ l:=by rw [cQ,hr]; rfl
end Go.Proofs.Ytmmbibcfkdabeaa
namespace Go.Proofs.Ytmmbibcfkdabeaa
open Go.RowKit
def bl (v t:Int) (x:Snap):Bool:=((decide (cQ x.chunks=0) && ba x.set 1 8) && (!x.held || decide (2<=v))) && decide (((x.tag.b.length:Nat):Int)<=t)
def cW (v:Int):Int:=if v<3 then 0 else 16
def cH (s:State) (v:Int):Bool:=!(decide (16<((s.snaps.length:Nat):Int)) || !(ai Snap.id (s.next - 1) 0 s.snaps)) && s.snaps.all (bl v (cW v))
def bY (s:State) (v:Int):Bool:=((ba s.version 1 3 && ba s.next 1 1048576) && ba s.keep 0 8) && ba s.quota 0 (if v<3 then 0 else 64)
def gV (s:State):Bool:=ai Sess.client 8 0 s.sess && s.sess.all aN
def fK (s:State):Bool:=ai Opn.set 8 0 s.opens && s.opens.all aM
def mayF (s:State) (v:Int):Int:=if !(ba v 1 3) then 1 else if (((!bY s v || !gV s) || !fK s) || !cH s v) then 6 else 0
end Go.Proofs.Ytmmbibcfkdabeaa
namespace Go.Proofs.Ytmmbibcfkdabeaa
open Go.RowKit
theorem HY {s:State} {v:Int} (h:(!(ba v 1 3))=true):1=mayF s v:=by rw [mayF,if_pos h]
end Go.Proofs.Ytmmbibcfkdabeaa
namespace Go.Proofs.Ytmmbibcfkdabeaa
open Go.RowKit
def dO (next v:Int) (x:Snap):Bool:=((((cC x.chunks && ba x.id 1 (IntKind.i64.wrap (next - 1))) && ba x.set 1 8) && (!x.held || decide (2<=v))) && decide (((x.tag.b.length:Nat):Int)<=16)) && (decide (x.tag=⟨[]⟩) || decide (3<=v))
def aS {α:Type} (p:α->Bool) (key:α->Int) (most:Int) (l:List α):Bool:=ai key most 0 l && l.all p
def jl (s:State) (v:Int):Bool:=((((((decide ((1:Int)<=s.version)) && (decide (s.version<=(3:Int)))) && ((decide ((1:Int)<=s.next)) && (decide (s.next<=(1048576:Int))))) && ((decide ((0:Int)<=s.keep)) && (decide (s.keep<=(8:Int))))) && ((decide ((0:Int)<=s.quota)) && (decide (s.quota<=(64:Int))))) && (decide (s.quota=(0:Int)) || decide ((3:Int)<=v))) && decide (((s.snaps.length:Nat):Int)<=(16:Int))
theorem kq {α:Type} {p:α->Bool} {key:α->Int} {most:Int} {l:List α} {k:Nat} {x:α} (hx:l[k]? = some x):aS p key most (l.take (k+1))=(aS p key most (l.take k) && (ba (key x) 1 most && p x) && (decide (((k:Nat):Int)=(0:Int)) || decide (aX key 0 (l.take k)<key x))):=by
 unfold aS
 rw [aD hx,dP,List.all_append]
 have e:ba (key x) (aX key 0 (l.take k)+1) most=true↔(aX key 0 (l.take k)<key x/\key x<=most):=by
  unfold ba; rw [Bool.and_eq_true,decide_eq_true_eq,decide_eq_true_eq]; omega
 have e1:ba (key x) 1 most=true↔(1<=key x/\key x<=most):=by
  unfold ba; rw [Bool.and_eq_true,decide_eq_true_eq,decide_eq_true_eq]
 have hp:∀ (q:List α) (a:Int),0<=a->ai key most a q=true->q≠[]->1<=aX key a q:=by
  intro q
  induction q with
  | nil=>intro a _ _ h; exact absurd rfl h
  | cons y q ih=>
   intro a ha hq _
   rw [ai,Bool.and_eq_true,ba,Bool.and_eq_true,decide_eq_true_eq] at hq
   cases q with
   | nil=>show 1<=key y; omega
   | cons z q=>exact ih (key y) (by omega) hq.2 (by simp)
 cases hr:ai key most 0 (l.take k) with
 | false=>simp
 | true=>
  by_cases hk:k=0
  ·subst hk
   have h0:aX key 0 (l.take 0)=0:=rfl
   have e2:ba (key x) (aX key 0 (l.take 0)+1) most=ba (key x) 1 most:=by rw [h0]; rfl
   rw [e2]; simp
  ·have hne:l.take k≠[]:=by
    intro h
    have h3:(l.take k).length=0:=by rw [h]; rfl
    have h2:=yf hx
    rw [List.length_take] at h3
    omega
   have h1:=hp _ _ (Int.le_refl 0) hr hne
   have e3:ba (key x) (aX key 0 (l.take k)+1) most=(ba (key x) 1 most && decide (aX key 0 (l.take k)<key x)):=by
    rw [Bool.eq_iff_iff,Bool.and_eq_true,e,e1,decide_eq_true_eq]; omega
   have e4:decide (((k:Nat):Int)=(0:Int))=false:=decide_eq_false (by omega)
   rw [e3,e4]
   cases ba (key x) 1 most <;> cases decide (aX key 0 (l.take k)<key x) <;> cases (l.take k).all p <;> cases hpx:p x <;> simp [hpx]
end Go.Proofs.Ytmmbibcfkdabeaa
namespace Go.Proofs.Ytmmbibcfkdabeaa
open Go.RowKit
theorem xk {B:Bool} {l:List Sess} {k:Nat} {x:Sess} (hx:l[k]? = some x):(B && aS aN Sess.client 8 (l.take (k+1)))=(((((((B && aS aN Sess.client 8 (l.take k)) && ((decide ((1:Int)<=x.client)) && (decide (x.client<=(8:Int))))) && ((decide ((0:Int)<=x.seq)) && (decide (x.seq<=(1048576:Int))))) && ((decide ((0:Int)<=x.last.code)) && (decide (x.last.code<=(99:Int))))) && ((decide ((0:Int)<=x.last.n)) && (decide (x.last.n<=(1048576:Int)))))) && (decide (((k:Nat):Int)=(0:Int)) || decide (aX Sess.client 0 (l.take k)<x.client))):=by
 rw [kq hx]
 show (B && (_ && (((decide ((1:Int)<=x.client)) && (decide (x.client<=(8:Int)))) && ((((decide ((0:Int)<=x.seq)) && (decide (x.seq<=(1048576:Int)))) && ((decide ((0:Int)<=x.last.code)) && (decide (x.last.code<=(99:Int))))) && ((decide ((0:Int)<=x.last.n)) && (decide (x.last.n<=(1048576:Int)))))) && _))=_
 cases B <;> cases aS aN Sess.client 8 (l.take k) <;> cases ((decide ((1:Int)<=x.client)) && (decide (x.client<=(8:Int)))) <;> cases ((decide ((0:Int)<=x.seq)) && (decide (x.seq<=(1048576:Int)))) <;> cases ((decide ((0:Int)<=x.last.code)) && (decide (x.last.code<=(99:Int)))) <;> cases ((decide ((0:Int)<=x.last.n)) && (decide (x.last.n<=(1048576:Int)))) <;> rfl
theorem wF {B:Bool} {l:List Opn} {k:Nat} {x:Opn} (hx:l[k]? = some x):(B && aS aM Opn.set 8 (l.take (k+1)))=((((B && aS aM Opn.set 8 (l.take k)) && ((decide ((1:Int)<=x.set)) && (decide (x.set<=(8:Int))))) && ((decide ((1:Int)<=x.client)) && (decide (x.client<=(8:Int))))) && (decide (((k:Nat):Int)=(0:Int)) || decide (aX Opn.set 0 (l.take k)<x.set))):=by
 rw [kq hx]
 show (B && (_ && (((decide ((1:Int)<=x.set)) && (decide (x.set<=(8:Int)))) && ((decide ((1:Int)<=x.client)) && (decide (x.client<=(8:Int))))) && _))=_
 cases B <;> cases aS aM Opn.set 8 (l.take k) <;> cases ((decide ((1:Int)<=x.set)) && (decide (x.set<=(8:Int)))) <;> cases ((decide ((1:Int)<=x.client)) && (decide (x.client<=(8:Int)))) <;> rfl
def cE (s:State) (v:Int) (l:List Snap):Bool:=aS (dO s.next v) Snap.id (IntKind.i64.wrap (s.next - 1)) l
theorem gP {B:Bool} {s:State} {v:Int} {l:List Snap} {k:Nat} {x:Snap} (hx:l[k]? = some x):(B && cE s v (l.take (k+1)))=(((B && cE s v (l.take k)) && dO s.next v x) && (decide (((k:Nat):Int)=(0:Int)) || decide (aX Snap.id 0 (l.take k)<x.id))):=by
 unfold cE
 rw [kq hx]
 have e:(ba x.id 1 (IntKind.i64.wrap (s.next - 1)) && dO s.next v x)=dO s.next v x:=by
  unfold dO
  cases ba x.id 1 (IntKind.i64.wrap (s.next - 1)) <;> simp
 rw [e]
 cases B <;> cases aS (dO s.next v) Snap.id (IntKind.i64.wrap (s.next - 1)) (l.take k) <;> cases dO s.next v x <;> rfl
theorem ig {α:Type} {key:α->Int} {most:Int}:∀ {l:List α} {a:Int},0<=a->ai key most a l=true->∀ x ∈ l,1<=key x/\key x<=most
 | [],_,_,_,x,hx=>by cases hx
 | y :: l,a,ha,h,x,hx=>by
  rw [ai,Bool.and_eq_true,ba,Bool.and_eq_true,decide_eq_true_eq,decide_eq_true_eq] at h
  rcases List.mem_cons.1 hx with rfl | hx
  ·omega
  ·exact ig (by omega) h.2 x hx
theorem BL {z:Int} (h:I64 z):IntKind.i64.wrap z=z:=I64.wrap h
theorem ET {v:Int} {x:Snap}:(decide (((x.tag.b.length:Nat):Int)<=16) && (decide (x.tag=⟨[]⟩) || decide (3<=v)))=decide (((x.tag.b.length:Nat):Int)<=cW v):=by
 have e:x.tag=⟨[]⟩↔x.tag.b.length=0:=by
  constructor
  ·intro h; rw [h]; rfl
  ·intro h; cases hx:x.tag with | mk b=>rw [hx] at h; simp at h; rw [h]
 rw [Bool.eq_iff_iff,Bool.and_eq_true,Bool.or_eq_true,decide_eq_true_eq,decide_eq_true_eq,decide_eq_true_eq,decide_eq_true_eq,e,cW]
 split <;> omega
theorem tc (l:List Int):decide (cQ l=0)=cC l:=by
 unfold cQ; cases cC l <;> rfl
theorem ry {next v:Int} {x:Snap} (hw:IntKind.i64.wrap (next - 1)=next - 1) (h:1<=x.id/\x.id<=next - 1):dO next v x=bl v (cW v) x:=by
 have e:ba x.id 1 (next - 1)=true:=by rw [ba,Bool.and_eq_true,decide_eq_true_eq,decide_eq_true_eq]; exact h
 unfold dO bl
 rw [hw,e,tc,<- ET]
 cases cC x.chunks <;> cases ba x.set 1 8 <;> cases (!x.held || decide (2<=v)) <;> simp
theorem Aw {q v:Int}:(((decide ((0:Int)<=q)) && (decide (q<=(64:Int)))) && (decide (q=(0:Int)) || decide ((3:Int)<=v)))=ba q 0 (if v<3 then 0 else 64):=by
 rw [Bool.eq_iff_iff,ba]
 simp only [Bool.and_eq_true,Bool.or_eq_true,decide_eq_true_eq]
 split <;> omega
theorem GS {s:State} {v:Int} {k k2 k3:Nat} (h1:s.sess.length<=k) (h2:s.opens.length<=k2) (h3:s.snaps.length<=k3) :
  (((jl s v && aS aN Sess.client 8 (s.sess.take k)) && aS aM Opn.set 8 (s.opens.take k2)) && cE s v (s.snaps.take k3)) = !(((!bY s v || !gV s) || !fK s) || !cH s v):=by
 rw [List.take_of_length_le h1,List.take_of_length_le h2,List.take_of_length_le h3]
 have e0:jl s v=(bY s v && decide (((s.snaps.length:Nat):Int)<=(16:Int))):=by
  unfold jl bY
  rw [<- Aw]
  show ((((_ && ba s.next 1 1048576) && _) && _) && _ && _)=_
  simp only [ba,Bool.and_assoc]
 have e1:aS aN Sess.client 8 s.sess=gV s:=rfl
 have e2:aS aM Opn.set 8 s.opens=fK s:=rfl
 rw [e0,e1,e2]
 cases hn:bY s v with
 | false=>simp
 | true=>
  have hnx:1<=s.next/\s.next<=1048576:=by
   unfold bY at hn
   simp only [Bool.and_eq_true,ba,decide_eq_true_eq] at hn
   exact hn.1.1.2
  have hw:IntKind.i64.wrap (s.next - 1)=s.next - 1:=BL ⟨by omega,by omega⟩
  have e3:(decide (((s.snaps.length:Nat):Int)<=(16:Int)) && cE s v s.snaps)=cH s v:=by
   unfold cE aS cH
   rw [hw]
   have ed:decide (16<((s.snaps.length:Nat):Int)) = !decide (((s.snaps.length:Nat):Int)<=(16:Int)):=by
    rw [<- decide_not,Bool.eq_iff_iff,decide_eq_true_eq,decide_eq_true_eq]; omega
   rw [ed]
   cases hr:ai Snap.id (s.next - 1) 0 s.snaps with
   | false=>simp
   | true=>
    have:s.snaps.all (dO s.next v)=s.snaps.all (bl v (cW v)):=by
     rw [Bool.eq_iff_iff,List.all_eq_true,List.all_eq_true]
     constructor
     ·intro h x hx; rw [<- ry hw (ig (Int.le_refl 0) hr x hx)]; exact h x hx
     ·intro h x hx; rw [ry hw (ig (Int.le_refl 0) hr x hx)]; exact h x hx
    rw [this]
    cases decide (((s.snaps.length:Nat):Int)<=(16:Int)) <;> simp
  rw [<- e3]
  cases gV s <;> cases fK s <;> cases decide (((s.snaps.length:Nat):Int)<=(16:Int)) <;> cases cE s v s.snaps <;> rfl
theorem GD {s:State} {v:Int} {k k2 k3:Nat} (hv:(!(ba v 1 3))=false) (h1:s.sess.length<=k) (h2:s.opens.length<=k2) (h3:s.snaps.length<=k3)
  (h:(!(((jl s v && aS aN Sess.client 8 (s.sess.take k)) && aS aM Opn.set 8 (s.opens.take k2)) && cE s v (s.snaps.take k3)))=true):6=mayF s v:=by
 rw [GS h1 h2 h3,Bool.not_not] at h
 rw [mayF,hv,if_neg (by decide),if_pos h]
theorem FV {s:State} {v:Int} {k k2 k3:Nat} (hv:(!(ba v 1 3))=false) (h1:s.sess.length<=k) (h2:s.opens.length<=k2) (h3:s.snaps.length<=k3)
  (h:(!(((jl s v && aS aN Sess.client 8 (s.sess.take k)) && aS aM Opn.set 8 (s.opens.take k2)) && cE s v (s.snaps.take k3)))=false):0=mayF s v:=by
 rw [GS h1 h2 h3,Bool.not_not] at h
 rw [mayF,hv,if_neg (by decide),h,if_neg (by decide)]
end Go.Proofs.Ytmmbibcfkdabeaa
namespace Go.Proofs.Ytmmbibcfkdabeaa
open Go.RowKit
def fR (k:Int):Int:=rD 0 k [((1:Int),(1:Int)),((2:Int),(1:Int)),((3:Int),(1:Int)),((4:Int),(1:Int)),((5:Int),(1:Int)),((6:Int),(1:Int)),((7:Int),(1:Int)),((8:Int),(1:Int)),((9:Int),(2:Int)),((10:Int),(2:Int)),((11:Int),(3:Int)),((12:Int),(3:Int))]
theorem oI {n a b:Int} (h:ba n a b=true):a<=n/\n<=b:=by unfold ba at h; rw [Bool.and_eq_true,decide_eq_true_eq,decide_eq_true_eq] at h; exact h
theorem Ix {n a b:Int} (h:ba n a b=false):¬ (a<=n/\n<=b):=fun h2=>by
 have:ba n a b=true:=by unfold ba; rw [Bool.and_eq_true,decide_eq_true_eq,decide_eq_true_eq]; exact h2
 rw [h] at this; cases this
def df (c:Command):Command:={ c with chunks:=c.chunks.take 12,text:=c.text.cut 0 40 }
def eT (x:Int) (l:List Int):Int:=match l.findIdx? (fun y=>decide (x=y)) with | some i=>(i:Int) | none=>-1
theorem xS {x y:Int} {l:List Int} {k:Nat} (h:∀ j y,j<k->l[j]? = some y->¬ x=y) (hy:l[k]? = some y) (hxy:x=y):(k:Int)=eT x l:=by
 have:l.findIdx? (fun y=>decide (x=y))=some k:=by
  obtain ⟨hk,rfl⟩:=List.getElem?_eq_some_iff.1 hy
  rw [List.findIdx?_eq_some_iff_getElem]
  exact ⟨hk,decide_eq_true hxy,fun j hj=>by simpa using h j _ hj (List.getElem?_eq_getElem (by omega))⟩
 simp [eT,this]
theorem uI (x:Int) (l:List Int):decide (0<=eT x l)=l.contains x:=by
 unfold eT
 cases h:l.findIdx? (fun y=>decide (x=y)) with
 | none=>
  rw [List.findIdx?_eq_none_iff] at h
  have:l.contains x=false:=by
   rw [<- Bool.not_eq_true,List.contains_iff_mem]
   intro hm; have:=h x hm; simp at this
  rw [this]; rfl
 | some i=>
  rw [List.findIdx?_eq_some_iff_getElem] at h
  obtain ⟨hi,hp,_⟩:=h
  have:l.contains x=true:=by
   rw [List.contains_iff_mem,of_decide_eq_true hp]; exact List.getElem_mem hi
  rw [this]; simp
def gu (n most:Int) (named:Bool):Bool:=if named then (decide (1<=n) && decide (n<=most)) else decide (n=0)
def lJ (k:Int):Int × Int:=rD (0,0) k [((6:Int),((0:Int),(8:Int))),((8:Int),((2:Int),(3:Int))),((12:Int),((0:Int),(64:Int)))]
def Hu (c:Command):Bool:=if c.kind=3 then cC c.chunks else decide (((c.chunks.length:Nat):Int)=0)
def Hq (c:Command):Bool:=if c.kind=11 then decide (((c.text.b.length:Nat):Int)<=16) else decide (c.text=⟨[]⟩)
def ei (c:Command):Bool:=((((((((decide ((lJ c.kind).1<=c.n) && decide (c.n<=(lJ c.kind).2)) && Hu c) && Hq c) && gu c.client 8 (!([(8:Int)].contains c.kind))) && gu c.seq 1048576 (!([(1:Int),8].contains c.kind))) && gu c.set 8 ([(2:Int),3,4].contains c.kind)) && gu c.id 1048576 ([(5:Int),7,9,10,11].contains c.kind)))
def bO (c:Command) (v:Int):Int:=if !(ba v 1 3) || decide (fR c.kind=0) then 1 else if v<fR c.kind then 10 else if !ei c then 1 else 0
end Go.Proofs.Ytmmbibcfkdabeaa
namespace Go.Proofs.Ytmmbibcfkdabeaa
open Go.RowKit
end Go.Proofs.Ytmmbibcfkdabeaa
namespace Go.Proofs.Ytmmbibcfkdabeaa
open Go.RowKit
end Go.Proofs.Ytmmbibcfkdabeaa
namespace Go.Proofs.Ytmmbibcfkdabeaa
open Go.RowKit
def jE (k:Int):Bool:=decide (1<=k) && decide (k<=3)
theorem Ga {α:Type} {a b:List α} {k:Nat} {d:α} (h:a.take k=b.take k) (ha:k<a.length) (hb:k<b.length) (e:a.getD k d=b.getD k d):a.take (k+1)=b.take (k+1):=by
 have h1:a[k]? = some (a.getD k d):=by rw [List.getD_eq_getElem?_getD,List.getElem?_eq_getElem ha]; rfl
 have h2:b[k]? = some (b.getD k d):=by rw [List.getD_eq_getElem?_getD,List.getElem?_eq_getElem hb]; rfl
 rw [aD h1,aD h2,h,e]
theorem mC {s:Str} {n:Nat} (h:(s.b.length:Int)<=n):s=⟨s.b.take n⟩:=by
 cases s; rw [List.take_of_length_le (by simpa using h)]
theorem EP {l:List Int} {k:Nat} {x:Int} (hx:l[k]? = some x):x=aX id 0 (l.take (k+1)):=bI (key:=id) hx
theorem xK {l:List Int} {k:Nat} {x:Int} (h:ai id 64 0 (l.take k)=true) (hx:l[k]? = some x) (h1:aX id 0 (l.take k)<x) (h2:x<=64):ai id 64 0 (l.take (k+1))=true:=gv (key:=id) h hx (by dsimp only [id]; omega) (by dsimp only [id]; omega)
def Gy (l:List Int):List (Nat × LI):=[(5,{ σ:=Nat,F:=fun k=>([(3,one (.int (aX id 0 (l.take k)))),(14,one (.fz .int (l))),(15,one (.int (l).length)),(16,one (.int k))],[]),J:=fun k=>k<=l.length/\ai id 64 0 (l.take k)=true/\1<=l.length/\l.length<=8,μ:=fun k=>(l).length - k })]
def DC (a:List Int) (b:List Int):List (Nat × LI):=[(4,{ σ:=Nat,F:=fun k=>([(0,one (.fz .int (a))),(1,one (.fz .int (b))),(5,one (.int k))],[]),J:=fun k=>k<=a.length/\a.length=b.length/\a.take k=b.take k,μ:=fun k=>a.length - k })]
theorem Cq (k:Int) (r0:Bool):di aJ ie [] Try.f93 [.c (.int (k))] [] [.c (.bool (.atom (r0)))]=(I64 k->(decide ((1:Int)<=k) && decide (k<=(3:Int)))=r0):=by kernel_rfl
theorem Bn (k:Int):Sat Try.prog (aw aJ) 93 [.c (.int (k))] [] ⟨[],[.c (.bool (.atom ((jE k))))],none,false⟩:=by
 refine aV cP [] Try.func93 (by decide) (by kernel_rfl) ?_
 rw [Cq]
 grind [jE]
theorem Gg (l:List Int) (r0:Bool):di aJ ie (Gy l) Try.f111 [.c (.fz .int (l))] [] [.c (.bool (.atom (r0)))]=((fun (q3:Int)=>(fun (q2:Int)=>(fun (q1:Nat)=>(fun (q0:Prop)=>l.length*(8:Nat)<=(140737488355328:Nat)->(q3<(1:Int)\/(8:Int)<q3->false=r0)/\((1:Int)<=q3/\q3<=(8:Int)->∃ (s0:Nat),(q2=aX id q2 (List.take s0 l)/\l=l/\q3=(↑q1:Int)/\q2=(↑s0:Int))/\(s0<=q1/\ai id (64:Int) q2 (List.take s0 l)=true/\q0)/\∀ (s:Nat),s<=q1/\ai id (64:Int) q2 (List.take s l)=true/\q0->((↑s:Int)<(↑q1:Int)->q2<=(↑s:Int)/\(↑s:Int)<q3/\∀ (x:Int),l[s]? = some x->I64 x->(x<=aX id q2 (List.take s l)\/(64:Int)<x->false=r0)/\(aX id q2 (List.take s l)<x/\x<=(64:Int)->I64 ((↑s:Int)+(1:Int))/\∃ (s':Nat),(x=aX id q2 (List.take s' l)/\l=l/\(↑q1:Int)=(↑q1:Int)/\(↑s:Int)+(1:Int)=(↑s':Int))/\(s' <= q1/\ai id (64:Int) q2 (List.take s' l)=true/\q0)/\q1 - s' < q1 - s))/\((↑q1:Int)<=(↑s:Int)->true=r0))) ((1:Nat)<=q1/\q1<=(8:Nat))) l.length) (0:Int)) (↑l.length:Int)):=by kernel_rfl
theorem GA (l:List Int):Sat Try.prog (aw aJ) 111 [.c (.fz .int (l))] [] ⟨[],[.c (.bool (.atom ((cC l))))],none,false⟩:=by
 refine aV cP (Gy l) Try.func111 (by decide) (by kernel_rfl) ?_
 rw [Gg]
 (repeat' (first | refine And.intro ?_ ?_ | intro))
 all_goals try (grind [lQ,gM,iq,EP,xK,ai,aX])
 all_goals (refine ⟨0,?_⟩; (repeat' (first | refine And.intro ?_ ?_ | intro)))
 all_goals try (grind [lQ,gM,iq,EP,xK,ai,aX])
 all_goals (refine ⟨‹Nat› + 1,?_⟩; (repeat' (first | refine And.intro ?_ ?_ | intro)))
 all_goals grind [lQ,gM,iq,EP,xK,ai,aX]
theorem ER (a:List Int) (b:List Int) (r0:Bool):di aJ ie (DC a b) Try.f20 [.c (.fz .int (a)),.c (.fz .int (b))] [] [.c (.bool (.atom (r0)))]=((fun (q1:Nat)=>(fun (q0:Int)=>a.length*(8:Nat)<=(140737488355328:Nat)->b.length*(8:Nat)<=(140737488355328:Nat)->(¬q0=(↑b.length:Int)->false=r0)/\(q0=(↑b.length:Int)->∃ (s0:Nat),(a=a/\b=b/\(0:Int)=(↑s0:Int))/\(s0<=q1/\q1=b.length/\List.take s0 a=List.take s0 b)/\∀ (s:Nat),(fun (q2:Prop)=>s<=q1/\q1=b.length/\List.take s a=List.take s b->((↑s:Int)<q0->(0:Int)<=(↑s:Int)/\(↑s:Int)<q0/\(0:Int)<=(↑s:Int)/\(↑s:Int)<(↑b.length:Int)/\(I64 (a.getD s (dflt Sh.int))->I64 (b.getD s (dflt Sh.int))->(¬q2->false=r0)/\(q2->I64 ((↑s:Int)+(1:Int))/\∃ (s':Nat),(a=a/\b=b/\(↑s:Int)+(1:Int)=(↑s':Int))/\(s' <= q1/\q1=b.length/\List.take s' a=List.take s' b)/\q1 - s' < q1 - s)))/\(q0<=(↑s:Int)->true=r0)) (a.getD s (dflt Sh.int)=b.getD s (dflt Sh.int)))) (↑a.length:Int)) a.length):=by kernel_rfl
theorem En (a:List Int) (b:List Int):Sat Try.prog (aw aJ) 20 [.c (.fz .int (a)),.c (.fz .int (b))] [] ⟨[],[.c (.bool (.atom ((decide (a=b)))))],none,false⟩:=by
 refine aV cP (DC a b) Try.func20 (by decide) (by kernel_rfl) ?_
 rw [ER]
 (repeat' (first | refine And.intro ?_ ?_ | intro))
 all_goals try (grind [aD])
 all_goals (refine ⟨0,?_⟩; (repeat' (first | refine And.intro ?_ ?_ | intro)))
 all_goals try (grind [aD])
 all_goals (refine ⟨‹Nat› + 1,?_⟩; (repeat' (first | refine And.intro ?_ ?_ | intro)))
 all_goals first | exact Ga (by grind) (by omega) (by omega) (by with_reducible assumption) | grind
theorem Fx (x:Int) (r0:Int):di aJ ie [] Try.f92 [.c (.int (x))] [] [.c (.int (r0))]=((fun (q0:Option (den Sh.int))=>I64 x->((fun (j:Int)=>if j=(12:Int) then some (3:Int) else (fun (j:Int)=>if j=(11:Int) then some (3:Int) else (fun (j:Int)=>if j=(10:Int) then some (2:Int) else (fun (j:Int)=>if j=(9:Int) then some (2:Int) else (fun (j:Int)=>if j=(8:Int) then q0 else (fun (j:Int)=>if j=(7:Int) then q0 else (fun (j:Int)=>if j=(6:Int) then q0 else (fun (j:Int)=>if j=(5:Int) then q0 else (fun (j:Int)=>if j=(4:Int) then q0 else (fun (j:Int)=>if j=(3:Int) then q0 else (fun (j:Int)=>if j=(2:Int) then q0 else (fun (j:Int)=>if j=(1:Int) then q0 else (fun (_:Int)=>none) j) j) j) j) j) j) j) j) j) j) j) j) x).getD (dflt Sh.int)=r0) (some (1:Int))):=by kernel_rfl
theorem DZ (x:Int):Sat Try.prog (aw aJ) 92 [.c (.int (x))] [] ⟨[],[.c (.int ((fR x)))],none,false⟩:=by
 refine aV cP [] Try.func92 (by decide) (by kernel_rfl) ?_
 rw [Fx]
 intro _
 simp only [fR,rD]
 by_cases h:1<=x/\x<=12
 ·have h2:x=1\/x=2\/x=3\/x=4\/x=5\/x=6\/x=7\/x=8\/x=9\/x=10\/x=11\/x=12:=by omega
  rcases h2 with rfl | rfl | rfl | rfl | rfl | rfl | rfl | rfl | rfl | rfl | rfl | rfl <;> rfl
 ·have h1:¬ x=1:=by omega
  have h2:¬ x=2:=by omega
  have h3:¬ x=3:=by omega
  have h4:¬ x=4:=by omega
  have h5:¬ x=5:=by omega
  have h6:¬ x=6:=by omega
  have h7:¬ x=7:=by omega
  have h8:¬ x=8:=by omega
  have h9:¬ x=9:=by omega
  have h10:¬ x=10:=by omega
  have h11:¬ x=11:=by omega
  have h12:¬ x=12:=by omega
  simp [h1,h2,h3,h4,h5,h6,h7,h8,h9,h10,h11,h12,dflt]
theorem GB (s:Span) (k:Int) (r0:Bool):di aJ ie [] Try.f110 [.agg (cellsOf (.nm .span) s),.c (.int (k))] [] [.c (.bool (.atom (r0)))]=(I64 s.lo->I64 s.hi->I64 k->(decide (s.lo<=k) && decide (k<=s.hi))=r0):=by kernel_rfl
theorem He (s:Span) (k:Int):Sat Try.prog (aw aJ) 110 [.agg (cellsOf (.nm .span) s),.c (.int (k))] [] ⟨[],[.c (.bool (.atom ((decide (s.lo<=k) && decide (k<=s.hi)))))],none,false⟩:=by
 refine aV cP [] Try.func110 (by decide) (by kernel_rfl) ?_
 rw [GB]
 grind
theorem yG (n:Int) (a:Int) (b:Int) (r0:Bool):di aJ ie [] Try.f83 [.c (.int (n)),.c (.int (a)),.c (.int (b))] [] [.c (.bool (.atom (r0)))]=(I64 n->I64 a->I64 b->(decide (a<=n) && decide (n<=b))=r0):=by kernel_rfl
theorem Ba (n:Int) (a:Int) (b:Int):Sat Try.prog (aw aJ) 83 [.c (.int (n)),.c (.int (a)),.c (.int (b))] [] ⟨[],[.c (.bool (.atom ((ba n a b))))],none,false⟩:=by
 refine aV cP [] Try.func83 (by decide) (by kernel_rfl) ?_
 rw [yG]
 grind [ba]
theorem Gs (n:Int) (a:Int) (b:Int) (r0:Bool):di aJ ie [] Try.f33 [.c (.int (n)),.c (.int (a)),.c (.int (b))] [] [.c (.bool (.atom (r0)))]=(I64 n->I64 a->I64 b->(decide (a<=n) && decide (n<=b))=r0):=by kernel_rfl
theorem Gp (n:Int) (a:Int) (b:Int):Sat Try.prog (aw aJ) 33 [.c (.int (n)),.c (.int (a)),.c (.int (b))] [] ⟨[],[.c (.bool (.atom ((ba n a b))))],none,false⟩:=by
 refine aV cP [] Try.func33 (by decide) (by kernel_rfl) ?_
 rw [Gs]
 grind [ba]
theorem Gx (n:Int) (a:Int) (b:Int) (r0:Bool):di aJ ie [] Try.f36 [.c (.int (n)),.c (.int (a)),.c (.int (b))] [] [.c (.bool (.atom (r0)))]=(I64 n->I64 a->I64 b->(decide (a<=n) && decide (n<=b))=r0):=by kernel_rfl
theorem GM (n:Int) (a:Int) (b:Int):Sat Try.prog (aw aJ) 36 [.c (.int (n)),.c (.int (a)),.c (.int (b))] [] ⟨[],[.c (.bool (.atom ((ba n a b))))],none,false⟩:=by
 refine aV cP [] Try.func36 (by decide) (by kernel_rfl) ?_
 rw [Gx]
 grind [ba]
theorem tJ (x:Sess) (r0:Int):di aJ ie [] Try.f67 [.agg (cellsOf (.nm .sess) x)] [] [.c (.int (r0))]=(I64 x.client->I64 x.seq->I64 x.last.code->I64 x.last.n->x.client=r0):=by kernel_rfl
theorem tZ (x:Sess):Sat Try.prog (aw aJ) 67 [.agg (cellsOf (.nm .sess) x)] [] ⟨[],[.c (.int ((x.client)))],none,false⟩:=by
 refine aV cP [] Try.func67 (by decide) (by kernel_rfl) ?_
 rw [tJ]
 grind
theorem CY (x:Opn) (r0:Int):di aJ ie [] Try.f88 [.agg (cellsOf (.nm .opn) x)] [] [.c (.int (r0))]=(I64 x.set->I64 x.client->x.set=r0):=by kernel_rfl
theorem Cv (x:Opn):Sat Try.prog (aw aJ) 88 [.agg (cellsOf (.nm .opn) x)] [] ⟨[],[.c (.int ((x.set)))],none,false⟩:=by
 refine aV cP [] Try.func88 (by decide) (by kernel_rfl) ?_
 rw [CY]
 grind
theorem DR (x:Snap) (r0:Int):di aJ ie [] Try.f72 [.agg (cellsOf (.nm .snap) x)] [] [.c (.int (r0))]=(I64 x.id->I64 x.set->x.chunks.length*(8:Nat)<=(140737488355328:Nat)->x.tag.b.length<=(140737488355328:Nat)->x.id=r0):=by kernel_rfl
theorem Ea (x:Snap):Sat Try.prog (aw aJ) 72 [.agg (cellsOf (.nm .snap) x)] [] ⟨[],[.c (.int ((x.id)))],none,false⟩:=by
 refine aV cP [] Try.func72 (by decide) (by kernel_rfl) ?_
 rw [DR]
 grind
theorem vZ (e:Int) (r0:Reply):di aJ ie [] Try.f29 [.c (.int (e))] [] [.agg (cellsOf (.nm .reply) r0)]=(I64 e->e=r0.code/\(0:Int)=r0.n):=by kernel_rfl
theorem wU (e:Int):Sat Try.prog (aw aJ) 29 [.c (.int (e))] [] ⟨[],[.agg (cellsOf (.nm .reply) (⟨e,0⟩))],none,false⟩:=by
 refine aV cP [] Try.func29 (by decide) (by kernel_rfl) ?_
 rw [vZ]
 grind
theorem Hb (c:Command) (r0:Command):di aJ ie [] Try.f12 [.agg (cellsOf (.nm .command) c)] [] [.agg (cellsOf (.nm .command) r0)]=((fun (q10:Prop)=>(fun (q9:Prop)=>(fun (q8:Prop)=>(fun (q7:Prop)=>(fun (q6:Nat)=>(fun (q5:Prop)=>(fun (q4:Prop)=>(fun (q3:Int)=>(fun (q2:Prop)=>(fun (q1:Prop)=>(fun (q0:Int)=>I64 c.kind->I64 c.client->I64 c.seq->I64 c.set->I64 c.id->I64 c.n->q6*(8:Nat)<=(140737488355328:Nat)->c.text.b.length<=(140737488355328:Nat)->((12:Int)<(↑q6:Int)->(0:Int)<=(12:Int)/\(12:Int)<=(↑q6:Int)/\(q3<q0->(0:Int)<=q3/\q3<=q0/\q2/\q1/\q4/\q5/\q7/\q10/\q9/\q8)/\(q0<=q3->q2/\q1/\q4/\q5/\q7/\q10/\q9/\c.text=r0.text))/\((↑q6:Int)<=(12:Int)->(q3<q0->(0:Int)<=q3/\q3<=q0/\q2/\q1/\q4/\q5/\q7/\q10/\c.chunks=r0.chunks/\q8)/\(q0<=q3->q2/\q1/\q4/\q5/\q7/\q10/\c.chunks=r0.chunks/\c.text=r0.text))) (↑c.text.b.length:Int)) (c.client=r0.client)) (c.kind=r0.kind)) (40:Int)) (c.seq=r0.seq)) (c.set=r0.set)) c.chunks.length) (c.id=r0.id)) (Str.mk (List.take (40:Nat) c.text.b)=r0.text)) (List.take (12:Nat) c.chunks=r0.chunks)) (c.n=r0.n)):=by kernel_rfl
theorem F_ (c:Command):Sat Try.prog (aw aJ) 12 [.agg (cellsOf (.nm .command) c)] [] ⟨[],[.agg (cellsOf (.nm .command) (df c))],none,false⟩:=by
 refine aV cP [] Try.func12 (by decide) (by kernel_rfl) ?_
 rw [Hb]
 simp only [df,Str.cut]; (repeat' (first | refine And.intro ?_ ?_ | intro)) <;> first | trivial | rfl | omega | (symm; exact List.take_of_length_le (by omega)) | exact mC (by omega)
def Aj:dg:=(bU 12 (bR (aj (kT (.nm .command)) aT) aR fun (c,_) (_)=>⟨[],[.agg (cellsOf (.nm .command) (df c))],none,false⟩) (bU 29 (bR (aj (kC cI) aT) aR fun (e,_) (_)=>⟨[],[.agg (cellsOf (.nm .reply) (⟨e,0⟩))],none,false⟩) (bU 72 (bR (aj (kT (.nm .snap)) aT) aR fun (x,_) (_)=>⟨[],[.c (.int ((x.id)))],none,false⟩) (bU 88 (bR (aj (kT (.nm .opn)) aT) aR fun (x,_) (_)=>⟨[],[.c (.int ((x.set)))],none,false⟩) (bU 67 (bR (aj (kT (.nm .sess)) aT) aR fun (x,_) (_)=>⟨[],[.c (.int ((x.client)))],none,false⟩) (bU 36 (bR (aj (kC cI) (aj (kC cI) (aj (kC cI) aT))) aR fun (n,a,b,_) (_)=>⟨[],[.c (.bool (.atom ((ba n a b))))],none,false⟩) (bU 33 (bR (aj (kC cI) (aj (kC cI) (aj (kC cI) aT))) aR fun (n,a,b,_) (_)=>⟨[],[.c (.bool (.atom ((ba n a b))))],none,false⟩) (bU 83 (bR (aj (kC cI) (aj (kC cI) (aj (kC cI) aT))) aR fun (n,a,b,_) (_)=>⟨[],[.c (.bool (.atom ((ba n a b))))],none,false⟩) (bU 110 (bR (aj (kT (.nm .span)) (aj (kC cI) aT)) aR fun (s,k,_) (_)=>⟨[],[.c (.bool (.atom ((decide (s.lo<=k) && decide (k<=s.hi)))))],none,false⟩) (bU 92 (bR (aj (kC cI) aT) aR fun (x,_) (_)=>⟨[],[.c (.int ((fR x)))],none,false⟩) (bU 20 (bR (aj (kC (cL .int)) (aj (kC (cL .int)) aT)) aR fun (a,b,_) (_)=>⟨[],[.c (.bool (.atom ((decide (a=b)))))],none,false⟩) (bU 111 (bR (aj (kC (cL .int)) aT) aR fun (l,_) (_)=>⟨[],[.c (.bool (.atom ((cC l))))],none,false⟩) (bU 93 (bR (aj (kC cI) aT) aR fun (k,_) (_)=>⟨[],[.c (.bool (.atom ((jE k))))],none,false⟩) ie)))))))))))))
theorem lB:bg Try.prog (aw aJ) Aj:=(aA (az (ab bS aq) ao fun (c,_) (_) _=>F_ c ) (aA (az (ab (au av) aq) ao fun (e,_) (_) _=>wU e ) (aA (az (ab bS aq) ao fun (x,_) (_) _=>Ea x ) (aA (az (ab bS aq) ao fun (x,_) (_) _=>Cv x ) (aA (az (ab bS aq) ao fun (x,_) (_) _=>tZ x ) (aA (az (ab (au av) (ab (au av) (ab (au av) aq))) ao fun (n,a,b,_) (_) _=>GM n a b ) (aA (az (ab (au av) (ab (au av) (ab (au av) aq))) ao fun (n,a,b,_) (_) _=>Gp n a b ) (aA (az (ab (au av) (ab (au av) (ab (au av) aq))) ao fun (n,a,b,_) (_) _=>Ba n a b ) (aA (az (ab bS (ab (au av) aq)) ao fun (s,k,_) (_) _=>He s k ) (aA (az (ab (au av) aq) ao fun (x,_) (_) _=>DZ x ) (aA (az (ab (au bZ) (ab (au bZ) aq)) ao fun (a,b,_) (_) _=>En a b ) (aA (az (ab (au bZ) aq) ao fun (l,_) (_) _=>GA l ) (aA (az (ab (au av) aq) ao fun (k,_) (_) _=>Bn k ) cP)))))))))))))
end Go.Proofs.Ytmmbibcfkdabeaa
namespace Go.Proofs.Ytmmbibcfkdabeaa
open Go.RowKit
theorem al {n:Int} (h1:-9223372036854775808<=n) (h2:n<=9223372036854775807):I64 n:=⟨h1,h2⟩
def ah {α:Type} (key:α->Int) (want:Int) (l:List α):Int:=match l.findIdx? (fun x=>decide (key x=want)) with
 | some i=>(i:Int)
 | none=>-1
section
variable {α:Type} {key:α->Int} {want:Int} {l:List α} {k:Nat} {x:α}
theorem eg:ah key want l = -1↔∀ x ∈ l,¬ key x=want:=by
 unfold ah
 cases h:l.findIdx? (fun x=>decide (key x=want)) with
 | none=>simpa using h
 | some i=>
  rw [List.findIdx?_eq_some_iff_getElem] at h
  obtain ⟨h1,h2,_⟩:=h
  simp only [decide_eq_true_eq] at h2
  constructor
  ·intro h; dsimp only at h; omega
  ·intro h; exact absurd h2 (h _ (List.getElem_mem h1))
theorem dm:ah key want (l.take 0) = -1:=rfl
theorem cF (h:ah key want (l.take k) = -1) (hx:l[k]? = some x) (hn:¬ key x=want):ah key want (l.take (k+1)) = -1:=by
 rw [eg] at h ⊢
 rw [aD hx]
 intro y hy
 rcases List.mem_append.1 hy with hy | hy
 ·exact h y hy
 ·rw [List.mem_singleton] at hy; subst hy; exact hn
theorem cD (h:ah key want (l.take k) = -1) (hk:l.length<=k):-1=ah key want l:=by
 rw [List.take_of_length_le hk] at h; exact h.symm
theorem bW (h:ah key want (l.take k) = -1) (hx:l[k]? = some x) (he:key x=want):(k:Int)=ah key want l:=by
 have:l.findIdx? (fun x=>decide (key x=want))=some k:=by
  rw [eg] at h
  obtain ⟨hk,rfl⟩:=List.getElem?_eq_some_iff.1 hx
  rw [List.findIdx?_eq_some_iff_getElem]
  refine ⟨hk,decide_eq_true he,fun j hj=>?_⟩
  have:=h l[j] (by rw [List.mem_take_iff_getElem]; exact ⟨j,by omega,rfl⟩)
  simpa using this
 rw [ah,this]
end
def mU (l:List Sess) (want:Int):List (Nat × LI):=[(2,{ σ:=Nat,F:=fun k=>([(1,one (.int (want))),(2,one (.fn 67 [] [])),(9,one (.fz (.nm .sess) (l))),(10,one (.int (l).length)),(11,one (.int k))],[]),J:=fun k=>k<=l.length/\ah Sess.client want (l.take k) = -1,μ:=fun k=>(l).length - k })]
def lH (l:List Opn) (want:Int):List (Nat × LI):=[(2,{ σ:=Nat,F:=fun k=>([(1,one (.int (want))),(2,one (.fn 88 [] [])),(9,one (.fz (.nm .opn) (l))),(10,one (.int (l).length)),(11,one (.int k))],[]),J:=fun k=>k<=l.length/\ah Opn.set want (l.take k) = -1,μ:=fun k=>(l).length - k })]
def mZ (l:List Snap) (want:Int):List (Nat × LI):=[(2,{ σ:=Nat,F:=fun k=>([(1,one (.int (want))),(2,one (.fn 72 [] [])),(9,one (.fz (.nm .snap) (l))),(10,one (.int (l).length)),(11,one (.int k))],[]),J:=fun k=>k<=l.length/\ah Snap.id want (l.take k) = -1,μ:=fun k=>(l).length - k })]
theorem sj (l:List Sess) (want:Int) (r0:Int):di aJ Aj (mU l want) Try.f66 [.c (.fz (.nm .sess) (l)),.c (.int (want)),.c (.fn 67 [] [])] [] [.c (.int (r0))]=((fun (q1:Int)=>(fun (q0:Nat)=>l.length*(32:Nat)<=(140737488355328:Nat)->I64 want->∃ (s0:Nat),(want=want/\l=l/\(↑l.length:Int)=(↑q0:Int)/\(0:Int)=(↑s0:Int))/\(s0<=q0/\ah Sess.client want (List.take s0 l) = -q1)/\∀ (s:Nat),s<=q0/\ah Sess.client want (List.take s l) = -q1->((↑s:Int)<(↑q0:Int)->(0:Int)<=(↑s:Int)/\(↑s:Int)<(↑l.length:Int)/\∀ (x:Sess),l[s]? = some x->I64 x.client->I64 x.seq->I64 x.last.code->I64 x.last.n->I64 x.client->(x.client=want->(↑s:Int)=r0)/\(¬x.client=want->I64 ((↑s:Int)+q1)/\∃ (s':Nat),(want=want/\l=l/\(↑q0:Int)=(↑q0:Int)/\(↑s:Int)+q1=(↑s':Int))/\(s' <= q0/\ah Sess.client want (List.take s' l) = -q1)/\q0 - s' < q0 - s))/\((↑q0:Int)<=(↑s:Int) -> -q1=r0)) l.length) (1:Int)):=by kernel_rfl
theorem rK (l:List Sess) (want:Int):Sat Try.prog (aw aJ) 66 [.c (.fz (.nm .sess) (l)),.c (.int (want)),.c (.fn 67 [] [])] [] ⟨[],[.c (.int ((ah Sess.client want l)))],none,false⟩:=by
 refine aV lB (mU l want) Try.func66 (by decide) (by kernel_rfl) ?_
 rw [sj]
 (repeat' (first | with_reducible refine And.intro ?_ ?_ | with_reducible refine and_imp.2 ?_ | intro))
 all_goals try (first | (first | with_reducible rfl | with_reducible assumption | omega | (refine al ?_ ?_ <;> omega)) | exact (dm (key:=Sess.client)) | exact (bW (key:=Sess.client) (by with_reducible assumption) (by with_reducible assumption) (by with_reducible assumption)) | exact (cD (key:=Sess.client) (by with_reducible assumption) (by omega)) | exact (cF (key:=Sess.client) (by with_reducible assumption) (by with_reducible assumption) (by with_reducible assumption)))
 all_goals try (refine ⟨0,?_⟩; (repeat' (first | with_reducible refine And.intro ?_ ?_ | with_reducible refine and_imp.2 ?_ | intro)))
 all_goals try (first | (first | with_reducible rfl | with_reducible assumption | omega | (refine al ?_ ?_ <;> omega)) | exact (dm (key:=Sess.client)) | exact (bW (key:=Sess.client) (by with_reducible assumption) (by with_reducible assumption) (by with_reducible assumption)) | exact (cD (key:=Sess.client) (by with_reducible assumption) (by omega)) | exact (cF (key:=Sess.client) (by with_reducible assumption) (by with_reducible assumption) (by with_reducible assumption)))
 all_goals try (refine ⟨‹Nat› + 1,?_⟩; (repeat' (first | with_reducible refine And.intro ?_ ?_ | with_reducible refine and_imp.2 ?_ | intro)))
 all_goals (first | (first | with_reducible rfl | with_reducible assumption | omega | (refine al ?_ ?_ <;> omega)) | exact (dm (key:=Sess.client)) | exact (bW (key:=Sess.client) (by with_reducible assumption) (by with_reducible assumption) (by with_reducible assumption)) | exact (cD (key:=Sess.client) (by with_reducible assumption) (by omega)) | exact (cF (key:=Sess.client) (by with_reducible assumption) (by with_reducible assumption) (by with_reducible assumption)))
theorem rU (l:List Opn) (want:Int) (r0:Int):di aJ Aj (lH l want) Try.f96 [.c (.fz (.nm .opn) (l)),.c (.int (want)),.c (.fn 88 [] [])] [] [.c (.int (r0))]=((fun (q1:Int)=>(fun (q0:Nat)=>l.length*(16:Nat)<=(140737488355328:Nat)->I64 want->∃ (s0:Nat),(want=want/\l=l/\(↑l.length:Int)=(↑q0:Int)/\(0:Int)=(↑s0:Int))/\(s0<=q0/\ah Opn.set want (List.take s0 l) = -q1)/\∀ (s:Nat),s<=q0/\ah Opn.set want (List.take s l) = -q1->((↑s:Int)<(↑q0:Int)->(0:Int)<=(↑s:Int)/\(↑s:Int)<(↑l.length:Int)/\∀ (x:Opn),l[s]? = some x->I64 x.set->I64 x.client->I64 x.set->(x.set=want->(↑s:Int)=r0)/\(¬x.set=want->I64 ((↑s:Int)+q1)/\∃ (s':Nat),(want=want/\l=l/\(↑q0:Int)=(↑q0:Int)/\(↑s:Int)+q1=(↑s':Int))/\(s' <= q0/\ah Opn.set want (List.take s' l) = -q1)/\q0 - s' < q0 - s))/\((↑q0:Int)<=(↑s:Int) -> -q1=r0)) l.length) (1:Int)):=by kernel_rfl
theorem rf (l:List Opn) (want:Int):Sat Try.prog (aw aJ) 96 [.c (.fz (.nm .opn) (l)),.c (.int (want)),.c (.fn 88 [] [])] [] ⟨[],[.c (.int ((ah Opn.set want l)))],none,false⟩:=by
 refine aV lB (lH l want) Try.func96 (by decide) (by kernel_rfl) ?_
 rw [rU]
 (repeat' (first | with_reducible refine And.intro ?_ ?_ | with_reducible refine and_imp.2 ?_ | intro))
 all_goals try (first | (first | with_reducible rfl | with_reducible assumption | omega | (refine al ?_ ?_ <;> omega)) | exact (dm (key:=Opn.set)) | exact (bW (key:=Opn.set) (by with_reducible assumption) (by with_reducible assumption) (by with_reducible assumption)) | exact (cD (key:=Opn.set) (by with_reducible assumption) (by omega)) | exact (cF (key:=Opn.set) (by with_reducible assumption) (by with_reducible assumption) (by with_reducible assumption)))
 all_goals try (refine ⟨0,?_⟩; (repeat' (first | with_reducible refine And.intro ?_ ?_ | with_reducible refine and_imp.2 ?_ | intro)))
 all_goals try (first | (first | with_reducible rfl | with_reducible assumption | omega | (refine al ?_ ?_ <;> omega)) | exact (dm (key:=Opn.set)) | exact (bW (key:=Opn.set) (by with_reducible assumption) (by with_reducible assumption) (by with_reducible assumption)) | exact (cD (key:=Opn.set) (by with_reducible assumption) (by omega)) | exact (cF (key:=Opn.set) (by with_reducible assumption) (by with_reducible assumption) (by with_reducible assumption)))
 all_goals try (refine ⟨‹Nat› + 1,?_⟩; (repeat' (first | with_reducible refine And.intro ?_ ?_ | with_reducible refine and_imp.2 ?_ | intro)))
 all_goals (first | (first | with_reducible rfl | with_reducible assumption | omega | (refine al ?_ ?_ <;> omega)) | exact (dm (key:=Opn.set)) | exact (bW (key:=Opn.set) (by with_reducible assumption) (by with_reducible assumption) (by with_reducible assumption)) | exact (cD (key:=Opn.set) (by with_reducible assumption) (by omega)) | exact (cF (key:=Opn.set) (by with_reducible assumption) (by with_reducible assumption) (by with_reducible assumption)))
theorem qI (l:List Snap) (want:Int) (r0:Int):di aJ Aj (mZ l want) Try.f71 [.c (.fz (.nm .snap) (l)),.c (.int (want)),.c (.fn 72 [] [])] [] [.c (.int (r0))]=((fun (q1:Int)=>(fun (q0:Nat)=>l.length*(64:Nat)<=(140737488355328:Nat)->I64 want->∃ (s0:Nat),(want=want/\l=l/\(↑l.length:Int)=(↑q0:Int)/\(0:Int)=(↑s0:Int))/\(s0<=q0/\ah Snap.id want (List.take s0 l) = -q1)/\∀ (s:Nat),s<=q0/\ah Snap.id want (List.take s l) = -q1->((↑s:Int)<(↑q0:Int)->(0:Int)<=(↑s:Int)/\(↑s:Int)<(↑l.length:Int)/\∀ (x:Snap),l[s]? = some x->I64 x.id->I64 x.set->x.chunks.length*(8:Nat)<=(140737488355328:Nat)->x.tag.b.length<=(140737488355328:Nat)->I64 x.id->(x.id=want->(↑s:Int)=r0)/\(¬x.id=want->I64 ((↑s:Int)+q1)/\∃ (s':Nat),(want=want/\l=l/\(↑q0:Int)=(↑q0:Int)/\(↑s:Int)+q1=(↑s':Int))/\(s' <= q0/\ah Snap.id want (List.take s' l) = -q1)/\q0 - s' < q0 - s))/\((↑q0:Int)<=(↑s:Int) -> -q1=r0)) l.length) (1:Int)):=by kernel_rfl
theorem qN (l:List Snap) (want:Int):Sat Try.prog (aw aJ) 71 [.c (.fz (.nm .snap) (l)),.c (.int (want)),.c (.fn 72 [] [])] [] ⟨[],[.c (.int ((ah Snap.id want l)))],none,false⟩:=by
 refine aV lB (mZ l want) Try.func71 (by decide) (by kernel_rfl) ?_
 rw [qI]
 (repeat' (first | with_reducible refine And.intro ?_ ?_ | with_reducible refine and_imp.2 ?_ | intro))
 all_goals try (first | (first | with_reducible rfl | with_reducible assumption | omega | (refine al ?_ ?_ <;> omega)) | exact (dm (key:=Snap.id)) | exact (bW (key:=Snap.id) (by with_reducible assumption) (by with_reducible assumption) (by with_reducible assumption)) | exact (cD (key:=Snap.id) (by with_reducible assumption) (by omega)) | exact (cF (key:=Snap.id) (by with_reducible assumption) (by with_reducible assumption) (by with_reducible assumption)))
 all_goals try (refine ⟨0,?_⟩; (repeat' (first | with_reducible refine And.intro ?_ ?_ | with_reducible refine and_imp.2 ?_ | intro)))
 all_goals try (first | (first | with_reducible rfl | with_reducible assumption | omega | (refine al ?_ ?_ <;> omega)) | exact (dm (key:=Snap.id)) | exact (bW (key:=Snap.id) (by with_reducible assumption) (by with_reducible assumption) (by with_reducible assumption)) | exact (cD (key:=Snap.id) (by with_reducible assumption) (by omega)) | exact (cF (key:=Snap.id) (by with_reducible assumption) (by with_reducible assumption) (by with_reducible assumption)))
 all_goals try (refine ⟨‹Nat› + 1,?_⟩; (repeat' (first | with_reducible refine And.intro ?_ ?_ | with_reducible refine and_imp.2 ?_ | intro)))
 all_goals (first | (first | with_reducible rfl | with_reducible assumption | omega | (refine al ?_ ?_ <;> omega)) | exact (dm (key:=Snap.id)) | exact (bW (key:=Snap.id) (by with_reducible assumption) (by with_reducible assumption) (by with_reducible assumption)) | exact (cD (key:=Snap.id) (by with_reducible assumption) (by omega)) | exact (cF (key:=Snap.id) (by with_reducible assumption) (by with_reducible assumption) (by with_reducible assumption)))
def sB:dg:=(bU 71 (bR (aj (kC (cL (.nm .snap))) (aj (kC cI) (aj (kC (nt 72 [] [])) aT))) aR fun (l,want,_,_) (_)=>⟨[],[.c (.int ((ah Snap.id want l)))],none,false⟩) (bU 96 (bR (aj (kC (cL (.nm .opn))) (aj (kC cI) (aj (kC (nt 88 [] [])) aT))) aR fun (l,want,_,_) (_)=>⟨[],[.c (.int ((ah Opn.set want l)))],none,false⟩) (bU 66 (bR (aj (kC (cL (.nm .sess))) (aj (kC cI) (aj (kC (nt 67 [] [])) aT))) aR fun (l,want,_,_) (_)=>⟨[],[.c (.int ((ah Sess.client want l)))],none,false⟩) Aj)))
theorem fF:bg Try.prog (aw aJ) sB:=(aA (az (ab (au bZ) (ab (au av) (ab (au cu) aq))) ao fun (l,want,_,_) (_) _=>qN l want ) (aA (az (ab (au bZ) (ab (au av) (ab (au cu) aq))) ao fun (l,want,_,_) (_) _=>rf l want ) (aA (az (ab (au bZ) (ab (au av) (ab (au cu) aq))) ao fun (l,want,_,_) (_) _=>rK l want ) lB)))
end Go.Proofs.Ytmmbibcfkdabeaa
namespace Go.Proofs.Ytmmbibcfkdabeaa
open Go.RowKit
theorem CA {n r m:Nat} (h:aZ n+1=aZ r+m) (hr:128<=r):aZ n+1=aZ (r / 128)+(m+1):=by
 have:=lR (n:=r) (by omega); omega
theorem Bu {n r m:Nat} (h:aZ n+1=aZ r+m) (hn:n<18446744073709551616):m<=10:=by
 have:=mh hn; have:=gF r; omega
theorem Ag {n r m:Nat} (h:aZ n+1=aZ r+m) (hr:r<128):m=aZ n:=by
 have:=hU hr; omega
section
variable {α:Type} {key:α->Int} {most:Int} {l:List α} {k:Nat} {x:α}
theorem iW (h:ai key most 0 (l.take k)=true) (hx:l[k]? = some x) (hb:ba (key x) (aX key 0 (l.take k)+1) most=true):ai key most 0 (l.take (k+1))=true:=
 gv h hx (by have:=oI hb; omega) (oI hb).2
theorem iO (hx:l[k]? = some x) (hb:ba (key x) (aX key 0 (l.take k)+1) most=false):false=ai key most 0 l:=
 (kF hx (by have:=Ix hb; omega)).symm
theorem jq (h:ai key most 0 (l.take k)=true) (hk:l.length<=k):true=ai key most 0 l:=(gp h hk).symm
theorem iS (hx:l[k]? = some x) (h0:0<=aX key 0 (l.take k)) (hb:ba (key x) (aX key 0 (l.take k)+1) most=true):0<=aX key 0 (l.take (k+1)):=by
 have:=oI hb; rw [<- bI hx]; omega
theorem iJ (hx:l[k]? = some x) (hb:ba (key x) (aX key 0 (l.take k)+1) most=true) (hm:most<=1048576):aX key 0 (l.take (k+1))<=1048576:=by
 have:=oI hb; rw [<- bI hx]; omega
variable {p:α->Bool}
theorem iY (hx:l[k]? = some x) (hp:p x=false):false=l.all p:=(xU hx hp).symm
theorem iQ (h:(l.take k).all p=true) (hk:l.length<=k):true=l.all p:=(yB h hk).symm
end
def Dw (n:U64):List (Nat × LI):=[(2,{ σ:=Nat × Nat,F:=fun s=>([(0,one (.u64 s.1)),(3,one (.int s.2))],[]),J:=fun s=>s.1<18446744073709551616/\aZ n.n+1=aZ s.1+s.2,μ:=fun s=>s.1 })]
def kW (l:List Sess) (most:Int):List (Nat × LI):=[(3,{ σ:=Nat,F:=fun k=>([(1,one (.int (most))),(2,one (.fn 67 [] [])),(7,one (.int (aX Sess.client 0 (l.take k)))),(10,one (.fz (.nm .sess) (l))),(11,one (.int (l).length)),(12,one (.int k))],[]),J:=fun k=>k<=l.length/\ai Sess.client most 0 (l.take k)=true/\0<=aX Sess.client 0 (l.take k)/\aX Sess.client 0 (l.take k)<=1048576,μ:=fun k=>(l).length - k })]
def kQ (l:List Opn) (most:Int):List (Nat × LI):=[(3,{ σ:=Nat,F:=fun k=>([(1,one (.int (most))),(2,one (.fn 88 [] [])),(7,one (.int (aX Opn.set 0 (l.take k)))),(10,one (.fz (.nm .opn) (l))),(11,one (.int (l).length)),(12,one (.int k))],[]),J:=fun k=>k<=l.length/\ai Opn.set most 0 (l.take k)=true/\0<=aX Opn.set 0 (l.take k)/\aX Opn.set 0 (l.take k)<=1048576,μ:=fun k=>(l).length - k })]
def kL (l:List Snap) (most:Int):List (Nat × LI):=[(3,{ σ:=Nat,F:=fun k=>([(1,one (.int (most))),(2,one (.fn 72 [] [])),(7,one (.int (aX Snap.id 0 (l.take k)))),(10,one (.fz (.nm .snap) (l))),(11,one (.int (l).length)),(12,one (.int k))],[]),J:=fun k=>k<=l.length/\ai Snap.id most 0 (l.take k)=true/\0<=aX Snap.id 0 (l.take k)/\aX Snap.id 0 (l.take k)<=1048576,μ:=fun k=>(l).length - k })]
theorem DS (n:U64) (r0:Int):di aJ sB (Dw n) Try.f117 [.c (.u64 (n).n)] [] [.c (.int (r0))]=((fun (q0:Nat)=>n.n<(18446744073709551616:Nat)->∃ (s0:Nat × Nat),(n.n=s0.fst/\(1:Int)=(↑s0.snd:Int))/\(s0.fst<(18446744073709551616:Nat)/\q0=aZ s0.fst+s0.snd)/\∀ (s:Nat × Nat),s.fst<(18446744073709551616:Nat)/\q0=aZ s.fst+s.snd->((↑(128:Nat):Int)<=(↑s.fst:Int)->(7:Nat)<(64:Nat)/\I64 ((↑s.snd:Int)+(1:Int))/\∃ (s':Nat × Nat),(s.fst / (2:Nat) ^ (7:Nat)=s'.fst/\(↑s.snd:Int)+(1:Int)=(↑s'.snd:Int))/\(s'.fst<(18446744073709551616:Nat)/\q0=aZ s'.fst+s'.snd)/\s'.fst<s.fst)/\((↑s.fst:Int)<(↑(128:Nat):Int)->(↑s.snd:Int)=r0)) (aZ n.n+(1:Nat))):=by kernel_rfl
theorem EI (n:U64):Sat Try.prog (aw aJ) 117 [.c (.u64 (n).n)] [] ⟨[],[.c (.int (((aZ n.n:Int))))],none,false⟩:=by
 refine aV fF (Dw n) Try.func117 (by decide) (by kernel_rfl) ?_
 rw [DS]
 intro hn
 refine ⟨(n.n,1),⟨rfl,rfl⟩,⟨hn,rfl⟩,fun s hs=>⟨fun h=>?_,fun h=>?_⟩⟩
 ·have h2:=CA hs.2 (by omega)
  have h3:=Bu hs.2 hn
  exact ⟨by omega,by constructor <;> omega,(s.1 / 128,s.2+1),⟨rfl,by simp⟩,⟨by show s.1 / 128<_; omega,h2⟩,by show s.1 / 128<s.1; omega⟩
 ·exact congrArg Int.ofNat (Ag hs.2 (by omega))
theorem pI (l:List Sess) (most:Int) (r0:Bool):di aJ sB (kW l most) Try.f84 [.c (.fz (.nm .sess) (l)),.c (.int (most)),.c (.fn 67 [] [])] [] [.c (.bool (.atom (r0)))]=((fun (q1:Nat)=>(fun (q0:Int)=>l.length*(32:Nat)<=(140737488355328:Nat)->I64 most->∃ (s0:Nat),(fun (q2:Int)=>(most=most/\q0=q2/\l=l/\(↑l.length:Int)=(↑q1:Int)/\q0=(↑s0:Int))/\(s0<=q1/\ai Sess.client most q0 (List.take s0 l)=true/\q0<=q2/\q2<=(1048576:Int))/\∀ (s:Nat),(fun (q3:Int)=>s<=q1/\ai Sess.client most q0 (List.take s l)=true/\q0<=q3/\q3<=(1048576:Int)->((↑s:Int)<(↑q1:Int)->q0<=(↑s:Int)/\(↑s:Int)<(↑l.length:Int)/\∀ (x:Sess),(fun (q4:Bool)=>l[s]? = some x->I64 x.client->I64 x.seq->I64 x.last.code->I64 x.last.n->I64 x.client->I64 (q3+(1:Int))/\(q4=false->false=r0)/\(q4=true->I64 x.client->I64 ((↑s:Int)+(1:Int))/\∃ (s':Nat),(fun (q5:Int)=>(most=most/\x.client=q5/\l=l/\(↑q1:Int)=(↑q1:Int)/\(↑s:Int)+(1:Int)=(↑s':Int))/\(s' <= q1/\ai Sess.client most q0 (List.take s' l)=true/\q0<=q5/\q5<=(1048576:Int))/\q1 - s' < q1 - s) (aX Sess.client q0 (List.take s' l)))) (ba x.client (q3+(1:Int)) most))/\((↑q1:Int)<=(↑s:Int)->true=r0)) (aX Sess.client q0 (List.take s l))) (aX Sess.client q0 (List.take s0 l))) (0:Int)) l.length):=by kernel_rfl
theorem pY (l:List Sess) (most:Int) (h0:most<=1048576):Sat Try.prog (aw aJ) 84 [.c (.fz (.nm .sess) (l)),.c (.int (most)),.c (.fn 67 [] [])] [] ⟨[most<=1048576],[.c (.bool (.atom ((ai Sess.client most 0 l))))],none,false⟩:=by
 refine aV fF (kW l most) Try.func84 (by decide) (by kernel_rfl) ?_
 rw [pI]
 (repeat' (first | with_reducible refine And.intro ?_ ?_ | with_reducible refine and_imp.2 ?_ | intro))
 all_goals try (first | (first | with_reducible rfl | with_reducible assumption | omega | (refine al ?_ ?_ <;> omega)) | exact (iW (key:=Sess.client) (by with_reducible assumption) (by with_reducible assumption) (by with_reducible assumption)) | exact (iO (key:=Sess.client) (by with_reducible assumption) (by with_reducible assumption)) | exact (jq (key:=Sess.client) (by with_reducible assumption) (by omega)) | exact (bI (key:=Sess.client) (by with_reducible assumption)) | exact (iS (key:=Sess.client) (by with_reducible assumption) (by with_reducible assumption) (by with_reducible assumption)) | exact (iJ (key:=Sess.client) (by with_reducible assumption) (by with_reducible assumption) (by with_reducible assumption)) | exact rfl | exact Int.le_refl _ | exact (show (0:Int)<=1048576 by omega))
 all_goals try (refine ⟨0,?_⟩; (repeat' (first | with_reducible refine And.intro ?_ ?_ | with_reducible refine and_imp.2 ?_ | intro)))
 all_goals try (first | (first | with_reducible rfl | with_reducible assumption | omega | (refine al ?_ ?_ <;> omega)) | exact (iW (key:=Sess.client) (by with_reducible assumption) (by with_reducible assumption) (by with_reducible assumption)) | exact (iO (key:=Sess.client) (by with_reducible assumption) (by with_reducible assumption)) | exact (jq (key:=Sess.client) (by with_reducible assumption) (by omega)) | exact (bI (key:=Sess.client) (by with_reducible assumption)) | exact (iS (key:=Sess.client) (by with_reducible assumption) (by with_reducible assumption) (by with_reducible assumption)) | exact (iJ (key:=Sess.client) (by with_reducible assumption) (by with_reducible assumption) (by with_reducible assumption)) | exact rfl | exact Int.le_refl _ | exact (show (0:Int)<=1048576 by omega))
 all_goals try (refine ⟨‹Nat› + 1,?_⟩; (repeat' (first | with_reducible refine And.intro ?_ ?_ | with_reducible refine and_imp.2 ?_ | intro)))
 all_goals (first | (first | with_reducible rfl | with_reducible assumption | omega | (refine al ?_ ?_ <;> omega)) | exact (iW (key:=Sess.client) (by with_reducible assumption) (by with_reducible assumption) (by with_reducible assumption)) | exact (iO (key:=Sess.client) (by with_reducible assumption) (by with_reducible assumption)) | exact (jq (key:=Sess.client) (by with_reducible assumption) (by omega)) | exact (bI (key:=Sess.client) (by with_reducible assumption)) | exact (iS (key:=Sess.client) (by with_reducible assumption) (by with_reducible assumption) (by with_reducible assumption)) | exact (iJ (key:=Sess.client) (by with_reducible assumption) (by with_reducible assumption) (by with_reducible assumption)) | exact rfl | exact Int.le_refl _ | exact (show (0:Int)<=1048576 by omega))
theorem pV (l:List Opn) (most:Int) (r0:Bool):di aJ sB (kQ l most) Try.f87 [.c (.fz (.nm .opn) (l)),.c (.int (most)),.c (.fn 88 [] [])] [] [.c (.bool (.atom (r0)))]=((fun (q1:Nat)=>(fun (q0:Int)=>l.length*(16:Nat)<=(140737488355328:Nat)->I64 most->∃ (s0:Nat),(fun (q2:Int)=>(most=most/\q0=q2/\l=l/\(↑l.length:Int)=(↑q1:Int)/\q0=(↑s0:Int))/\(s0<=q1/\ai Opn.set most q0 (List.take s0 l)=true/\q0<=q2/\q2<=(1048576:Int))/\∀ (s:Nat),(fun (q3:Int)=>s<=q1/\ai Opn.set most q0 (List.take s l)=true/\q0<=q3/\q3<=(1048576:Int)->((↑s:Int)<(↑q1:Int)->q0<=(↑s:Int)/\(↑s:Int)<(↑l.length:Int)/\∀ (x:Opn),(fun (q4:Bool)=>l[s]? = some x->I64 x.set->I64 x.client->I64 x.set->I64 (q3+(1:Int))/\(q4=false->false=r0)/\(q4=true->I64 x.set->I64 ((↑s:Int)+(1:Int))/\∃ (s':Nat),(fun (q5:Int)=>(most=most/\x.set=q5/\l=l/\(↑q1:Int)=(↑q1:Int)/\(↑s:Int)+(1:Int)=(↑s':Int))/\(s' <= q1/\ai Opn.set most q0 (List.take s' l)=true/\q0<=q5/\q5<=(1048576:Int))/\q1 - s' < q1 - s) (aX Opn.set q0 (List.take s' l)))) (ba x.set (q3+(1:Int)) most))/\((↑q1:Int)<=(↑s:Int)->true=r0)) (aX Opn.set q0 (List.take s l))) (aX Opn.set q0 (List.take s0 l))) (0:Int)) l.length):=by kernel_rfl
theorem pb (l:List Opn) (most:Int) (h0:most<=1048576):Sat Try.prog (aw aJ) 87 [.c (.fz (.nm .opn) (l)),.c (.int (most)),.c (.fn 88 [] [])] [] ⟨[most<=1048576],[.c (.bool (.atom ((ai Opn.set most 0 l))))],none,false⟩:=by
 refine aV fF (kQ l most) Try.func87 (by decide) (by kernel_rfl) ?_
 rw [pV]
 (repeat' (first | with_reducible refine And.intro ?_ ?_ | with_reducible refine and_imp.2 ?_ | intro))
 all_goals try (first | (first | with_reducible rfl | with_reducible assumption | omega | (refine al ?_ ?_ <;> omega)) | exact (iW (key:=Opn.set) (by with_reducible assumption) (by with_reducible assumption) (by with_reducible assumption)) | exact (iO (key:=Opn.set) (by with_reducible assumption) (by with_reducible assumption)) | exact (jq (key:=Opn.set) (by with_reducible assumption) (by omega)) | exact (bI (key:=Opn.set) (by with_reducible assumption)) | exact (iS (key:=Opn.set) (by with_reducible assumption) (by with_reducible assumption) (by with_reducible assumption)) | exact (iJ (key:=Opn.set) (by with_reducible assumption) (by with_reducible assumption) (by with_reducible assumption)) | exact rfl | exact Int.le_refl _ | exact (show (0:Int)<=1048576 by omega))
 all_goals try (refine ⟨0,?_⟩; (repeat' (first | with_reducible refine And.intro ?_ ?_ | with_reducible refine and_imp.2 ?_ | intro)))
 all_goals try (first | (first | with_reducible rfl | with_reducible assumption | omega | (refine al ?_ ?_ <;> omega)) | exact (iW (key:=Opn.set) (by with_reducible assumption) (by with_reducible assumption) (by with_reducible assumption)) | exact (iO (key:=Opn.set) (by with_reducible assumption) (by with_reducible assumption)) | exact (jq (key:=Opn.set) (by with_reducible assumption) (by omega)) | exact (bI (key:=Opn.set) (by with_reducible assumption)) | exact (iS (key:=Opn.set) (by with_reducible assumption) (by with_reducible assumption) (by with_reducible assumption)) | exact (iJ (key:=Opn.set) (by with_reducible assumption) (by with_reducible assumption) (by with_reducible assumption)) | exact rfl | exact Int.le_refl _ | exact (show (0:Int)<=1048576 by omega))
 all_goals try (refine ⟨‹Nat› + 1,?_⟩; (repeat' (first | with_reducible refine And.intro ?_ ?_ | with_reducible refine and_imp.2 ?_ | intro)))
 all_goals (first | (first | with_reducible rfl | with_reducible assumption | omega | (refine al ?_ ?_ <;> omega)) | exact (iW (key:=Opn.set) (by with_reducible assumption) (by with_reducible assumption) (by with_reducible assumption)) | exact (iO (key:=Opn.set) (by with_reducible assumption) (by with_reducible assumption)) | exact (jq (key:=Opn.set) (by with_reducible assumption) (by omega)) | exact (bI (key:=Opn.set) (by with_reducible assumption)) | exact (iS (key:=Opn.set) (by with_reducible assumption) (by with_reducible assumption) (by with_reducible assumption)) | exact (iJ (key:=Opn.set) (by with_reducible assumption) (by with_reducible assumption) (by with_reducible assumption)) | exact rfl | exact Int.le_refl _ | exact (show (0:Int)<=1048576 by omega))
theorem pU (l:List Snap) (most:Int) (r0:Bool):di aJ sB (kL l most) Try.f103 [.c (.fz (.nm .snap) (l)),.c (.int (most)),.c (.fn 72 [] [])] [] [.c (.bool (.atom (r0)))]=((fun (q1:Nat)=>(fun (q0:Int)=>l.length*(64:Nat)<=(140737488355328:Nat)->I64 most->∃ (s0:Nat),(fun (q2:Int)=>(most=most/\q0=q2/\l=l/\(↑l.length:Int)=(↑q1:Int)/\q0=(↑s0:Int))/\(s0<=q1/\ai Snap.id most q0 (List.take s0 l)=true/\q0<=q2/\q2<=(1048576:Int))/\∀ (s:Nat),(fun (q3:Int)=>s<=q1/\ai Snap.id most q0 (List.take s l)=true/\q0<=q3/\q3<=(1048576:Int)->((↑s:Int)<(↑q1:Int)->q0<=(↑s:Int)/\(↑s:Int)<(↑l.length:Int)/\∀ (x:Snap),(fun (q4:Int)=>l[s]? = some x->I64 x.id->I64 x.set->x.chunks.length*(8:Nat)<=(140737488355328:Nat)->x.tag.b.length<=(140737488355328:Nat)->I64 x.id->I64 q4/\(ba x.id q4 most=false->false=r0)/\(ba x.id q4 most=true->I64 x.id->I64 ((↑s:Int)+(1:Int))/\∃ (s':Nat),(fun (q5:Int)=>(most=most/\x.id=q5/\l=l/\(↑q1:Int)=(↑q1:Int)/\(↑s:Int)+(1:Int)=(↑s':Int))/\(s' <= q1/\ai Snap.id most q0 (List.take s' l)=true/\q0<=q5/\q5<=(1048576:Int))/\q1 - s' < q1 - s) (aX Snap.id q0 (List.take s' l)))) (q3+(1:Int)))/\((↑q1:Int)<=(↑s:Int)->true=r0)) (aX Snap.id q0 (List.take s l))) (aX Snap.id q0 (List.take s0 l))) (0:Int)) l.length):=by kernel_rfl
theorem oK (l:List Snap) (most:Int) (h0:most<=1048576):Sat Try.prog (aw aJ) 103 [.c (.fz (.nm .snap) (l)),.c (.int (most)),.c (.fn 72 [] [])] [] ⟨[most<=1048576],[.c (.bool (.atom ((ai Snap.id most 0 l))))],none,false⟩:=by
 refine aV fF (kL l most) Try.func103 (by decide) (by kernel_rfl) ?_
 rw [pU]
 (repeat' (first | with_reducible refine And.intro ?_ ?_ | with_reducible refine and_imp.2 ?_ | intro))
 all_goals try (first | (first | with_reducible rfl | with_reducible assumption | omega | (refine al ?_ ?_ <;> omega)) | exact (iW (key:=Snap.id) (by with_reducible assumption) (by with_reducible assumption) (by with_reducible assumption)) | exact (iO (key:=Snap.id) (by with_reducible assumption) (by with_reducible assumption)) | exact (jq (key:=Snap.id) (by with_reducible assumption) (by omega)) | exact (bI (key:=Snap.id) (by with_reducible assumption)) | exact (iS (key:=Snap.id) (by with_reducible assumption) (by with_reducible assumption) (by with_reducible assumption)) | exact (iJ (key:=Snap.id) (by with_reducible assumption) (by with_reducible assumption) (by with_reducible assumption)) | exact rfl | exact Int.le_refl _ | exact (show (0:Int)<=1048576 by omega))
 all_goals try (refine ⟨0,?_⟩; (repeat' (first | with_reducible refine And.intro ?_ ?_ | with_reducible refine and_imp.2 ?_ | intro)))
 all_goals try (first | (first | with_reducible rfl | with_reducible assumption | omega | (refine al ?_ ?_ <;> omega)) | exact (iW (key:=Snap.id) (by with_reducible assumption) (by with_reducible assumption) (by with_reducible assumption)) | exact (iO (key:=Snap.id) (by with_reducible assumption) (by with_reducible assumption)) | exact (jq (key:=Snap.id) (by with_reducible assumption) (by omega)) | exact (bI (key:=Snap.id) (by with_reducible assumption)) | exact (iS (key:=Snap.id) (by with_reducible assumption) (by with_reducible assumption) (by with_reducible assumption)) | exact (iJ (key:=Snap.id) (by with_reducible assumption) (by with_reducible assumption) (by with_reducible assumption)) | exact rfl | exact Int.le_refl _ | exact (show (0:Int)<=1048576 by omega))
 all_goals try (refine ⟨‹Nat› + 1,?_⟩; (repeat' (first | with_reducible refine And.intro ?_ ?_ | with_reducible refine and_imp.2 ?_ | intro)))
 all_goals (first | (first | with_reducible rfl | with_reducible assumption | omega | (refine al ?_ ?_ <;> omega)) | exact (iW (key:=Snap.id) (by with_reducible assumption) (by with_reducible assumption) (by with_reducible assumption)) | exact (iO (key:=Snap.id) (by with_reducible assumption) (by with_reducible assumption)) | exact (jq (key:=Snap.id) (by with_reducible assumption) (by omega)) | exact (bI (key:=Snap.id) (by with_reducible assumption)) | exact (iS (key:=Snap.id) (by with_reducible assumption) (by with_reducible assumption) (by with_reducible assumption)) | exact (iJ (key:=Snap.id) (by with_reducible assumption) (by with_reducible assumption) (by with_reducible assumption)) | exact rfl | exact Int.le_refl _ | exact (show (0:Int)<=1048576 by omega))
theorem Ee (x:Sess) (r0:Bool):di aJ sB [] Try.f86 [.agg (cellsOf (.nm .sess) x)] [] [.c (.bool (.atom (r0)))]=(I64 x.client->I64 x.seq->I64 x.last.code->I64 x.last.n->(ba x.seq (0:Int) (1048576:Int) && ba x.last.code (0:Int) (99:Int) && ba x.last.n (0:Int) (1048576:Int))=r0):=by kernel_rfl
theorem Fo (x:Sess):Sat Try.prog (aw aJ) 86 [.agg (cellsOf (.nm .sess) x)] [] ⟨[],[.c (.bool (.atom ((aN x))))],none,false⟩:=by
 refine aV fF [] Try.func86 (by decide) (by kernel_rfl) ?_
 rw [Ee]
 grind [aN,ba]
theorem El (x:Opn) (r0:Bool):di aJ sB [] Try.f90 [.agg (cellsOf (.nm .opn) x)] [] [.c (.bool (.atom (r0)))]=(I64 x.set->I64 x.client->ba x.client (1:Int) (8:Int)=r0):=by kernel_rfl
theorem FI (x:Opn):Sat Try.prog (aw aJ) 90 [.agg (cellsOf (.nm .opn) x)] [] ⟨[],[.c (.bool (.atom ((aM x))))],none,false⟩:=by
 refine aV fF [] Try.func90 (by decide) (by kernel_rfl) ?_
 rw [El]
 grind [aM,ba]
def pj:dg:=(bU 90 (bR (aj (kT (.nm .opn)) aT) aR fun (x,_) (_)=>⟨[],[.c (.bool (.atom ((aM x))))],none,false⟩) (bU 86 (bR (aj (kT (.nm .sess)) aT) aR fun (x,_) (_)=>⟨[],[.c (.bool (.atom ((aN x))))],none,false⟩) (bU 103 (bR (aj (kC (cL (.nm .snap))) (aj (kC cI) (aj (kC (nt 72 [] [])) aT))) aR fun (l,most,_,_) (_)=>⟨[most<=1048576],[.c (.bool (.atom ((ai Snap.id most 0 l))))],none,false⟩) (bU 87 (bR (aj (kC (cL (.nm .opn))) (aj (kC cI) (aj (kC (nt 88 [] [])) aT))) aR fun (l,most,_,_) (_)=>⟨[most<=1048576],[.c (.bool (.atom ((ai Opn.set most 0 l))))],none,false⟩) (bU 84 (bR (aj (kC (cL (.nm .sess))) (aj (kC cI) (aj (kC (nt 67 [] [])) aT))) aR fun (l,most,_,_) (_)=>⟨[most<=1048576],[.c (.bool (.atom ((ai Sess.client most 0 l))))],none,false⟩) (bU 117 (bR (aj (kC cU) aT) aR fun (n,_) (_)=>⟨[],[.c (.int (((aZ n.n:Int))))],none,false⟩) sB))))))
theorem eF:bg Try.prog (aw aJ) pj:=(aA (az (ab bS aq) ao fun (x,_) (_) _=>FI x ) (aA (az (ab bS aq) ao fun (x,_) (_) _=>Fo x ) (aA (az (ab (au bZ) (ab (au av) (ab (au cu) aq))) ao fun (l,most,_,_) (_) hp=>oK l most (eQ hp)) (aA (az (ab (au bZ) (ab (au av) (ab (au cu) aq))) ao fun (l,most,_,_) (_) hp=>pb l most (eQ hp)) (aA (az (ab (au bZ) (ab (au av) (ab (au cu) aq))) ao fun (l,most,_,_) (_) hp=>pY l most (eQ hp)) (aA (az (ab (au Ds) aq) ao fun (n,_) (_) _=>EI n ) fF))))))
end Go.Proofs.Ytmmbibcfkdabeaa
namespace Go.Proofs.Ytmmbibcfkdabeaa
open Go.RowKit
theorem ue {n k:Nat} (h:(k:Int)<aZ n):(dB n k).set k (UInt8.ofNat (n / 128 ^ k) ||| UInt8.ofNat 128)=dB n (k+1):=tr (by omega)
theorem oS {n k:Nat} (h1:k<=aZ n) (h2:(aZ n:Int)<=(k:Int)):(dB n k).set ((aZ n:Int) - 1).toNat ((dB n k).getD ((aZ n:Int) - 1).toNat (dflt Sh.u8) &&& UInt8.ofNat 127)=lI n:=by
 have e:k=aZ n:=by omega
 have e2:((aZ n:Int) - 1).toNat=aZ n - 1:=by omega
 have hl:=fa (n:=n) (Nat.le_refl _)
 have hp:=gF n
 subst e
 have hlt:aZ n - 1<(dB n (aZ n)).length:=by omega
 rw [e2,List.getD_eq_getElem?_getD,List.getElem?_eq_getElem hlt,Option.getD_some,tP (List.getElem?_eq_getElem hlt)]
 rfl
def Gu (n:U64):List (Nat × LI):=[(4,{ σ:=Nat,F:=fun k=>([(0,one (.u64 (n.n / 128 ^ k))),(3,one (.int (aZ n.n))),(4,one (.own 0)),(10,one (.int (aZ n.n))),(11,one (.int k))],[.row 5 .u8 ((dB n.n k))]),J:=fun k=>k<=aZ n.n,μ:=fun k=>aZ n.n - k })]
def qF (l:List Sess):List (Nat × LI):=[(2,{ σ:=Nat,F:=fun k=>([(1,one (.fn 86 [] [])),(7,one (.fz (.nm .sess) (l))),(8,one (.int (l).length)),(9,one (.int k))],[]),J:=fun k=>k<=l.length/\(l.take k).all (aN)=true,μ:=fun k=>(l).length - k })]
def rN (l:List Opn):List (Nat × LI):=[(2,{ σ:=Nat,F:=fun k=>([(1,one (.fn 90 [] [])),(7,one (.fz (.nm .opn) (l))),(8,one (.int (l).length)),(9,one (.int k))],[]),J:=fun k=>k<=l.length/\(l.take k).all (aM)=true,μ:=fun k=>(l).length - k })]
theorem GO (n:U64) (r0:List UInt8):uv aJ pj (Gu n) Try.f114 [.c (.u64 (n).n)] [] [.c (.own 0)] [.row 5 .u8 (r0)]=((fun (q2:Nat)=>(fun (q1:Int)=>(fun (q0:Int)=>n.n<(18446744073709551616:Nat)->I64 q0->(0:Int)<=q0/\q0*(↑(1:Nat):Int)<=(140737488355328:Int)/\q0=q0/\∃ (s0:Nat),(fun (q3:Int)=>(n.n=n.n / (128:Nat) ^ s0/\q0=q0/\q0=q0/\(0:Int)=(↑s0:Int)/\List.replicate q2 (dflt Sh.u8)=dB n.n s0)/\s0<=q2/\∀ (s:Nat),(fun (q4:List UInt8)=>s<=q2->((↑s:Int)<q0->(0:Int)<=(↑s:Int)/\(↑s:Int)<(↑q4.length:Int)/\(7:Nat)<(64:Nat)/\I64 ((↑s:Int)+q1)/\∃ (s':Nat),(n.n / (128:Nat) ^ s / (2:Nat) ^ (7:Nat)=n.n / (128:Nat) ^ s' /\ q0=q0/\q0=q0/\(↑s:Int)+q1=(↑s':Int)/\q4.set s (UInt8.ofNat (n.n / (128:Nat) ^ s) ||| UInt8.ofNat (128:Nat))=dB n.n s')/\s' <= q2/\q2 - s' < q2 - s)/\(q0<=(↑s:Int)->I64 q3/\(0:Int)<=q3/\q3<(↑q4.length:Int)/\(0:Int)<=q3/\q3<(↑q4.length:Int)/\q4.set q3.toNat (q4.getD q3.toNat (dflt Sh.u8) &&& UInt8.ofNat (127:Nat))=r0)) (dB n.n s)) (q0 - q1)) (↑q2:Int)) (1:Int)) (aZ n.n)):=by kernel_rfl
theorem Gr (n:U64):Sat Try.prog (aw aJ) 114 [.c (.u64 (n).n)] [] ⟨[],[.c (.own 0)],some ([.row 5 .u8 ((lI n.n))]),true⟩:=by
 refine fh eF (Gu n) Try.func114 (by decide) (by kernel_rfl) ?_
 rw [GO]
 intro hn
 have h1:=gF n.n
 have h10:=mh hn
 (repeat' (first | with_reducible refine And.intro ?_ ?_ | with_reducible refine and_imp.2 ?_ | intro))
 all_goals try (first | (first | with_reducible rfl | with_reducible assumption | omega | (refine al ?_ ?_ <;> omega)) | exact (iv n.n) | exact (ue (by omega)) | exact (oS (by omega) (by omega)) | exact div_pow | exact (by rw [Nat.pow_zero,Nat.div_one]) | exact (by rw [fa (by omega)]; omega))
 all_goals try (refine ⟨0,?_⟩; (repeat' (first | with_reducible refine And.intro ?_ ?_ | with_reducible refine and_imp.2 ?_ | intro)))
 all_goals try (first | (first | with_reducible rfl | with_reducible assumption | omega | (refine al ?_ ?_ <;> omega)) | exact (iv n.n) | exact (ue (by omega)) | exact (oS (by omega) (by omega)) | exact div_pow | exact (by rw [Nat.pow_zero,Nat.div_one]) | exact (by rw [fa (by omega)]; omega))
 all_goals try (refine ⟨‹Nat› + 1,?_⟩; (repeat' (first | with_reducible refine And.intro ?_ ?_ | with_reducible refine and_imp.2 ?_ | intro)))
 all_goals (first | (first | with_reducible rfl | with_reducible assumption | omega | (refine al ?_ ?_ <;> omega)) | exact (iv n.n) | exact (ue (by omega)) | exact (oS (by omega) (by omega)) | exact div_pow | exact (by rw [Nat.pow_zero,Nat.div_one]) | exact (by rw [fa (by omega)]; omega))
theorem wg (l:List Sess) (r0:Bool):di aJ pj (qF l) Try.f85 [.c (.fz (.nm .sess) (l)),.c (.fn 86 [] [])] [] [.c (.bool (.atom (r0)))]=((fun (q0:Nat)=>l.length*(32:Nat)<=(140737488355328:Nat)->∃ (s0:Nat),(l=l/\(↑l.length:Int)=(↑q0:Int)/\(0:Int)=(↑s0:Int))/\(s0<=q0/\(List.take s0 l).all aN=true)/\∀ (s:Nat),s<=q0/\(List.take s l).all aN=true->((↑s:Int)<(↑q0:Int)->(0:Int)<=(↑s:Int)/\(↑s:Int)<(↑l.length:Int)/\∀ (x:Sess),l[s]? = some x->I64 x.client->I64 x.seq->I64 x.last.code->I64 x.last.n->(aN x=false->false=r0)/\(aN x=true->I64 ((↑s:Int)+(1:Int))/\∃ (s':Nat),(l=l/\(↑q0:Int)=(↑q0:Int)/\(↑s:Int)+(1:Int)=(↑s':Int))/\(s' <= q0/\(List.take s' l).all aN=true)/\q0 - s' < q0 - s))/\((↑q0:Int)<=(↑s:Int)->true=r0)) l.length):=by kernel_rfl
theorem wQ (l:List Sess):Sat Try.prog (aw aJ) 85 [.c (.fz (.nm .sess) (l)),.c (.fn 86 [] [])] [] ⟨[],[.c (.bool (.atom ((l.all (aN)))))],none,false⟩:=by
 refine aV eF (qF l) Try.func85 (by decide) (by kernel_rfl) ?_
 rw [wg]
 (repeat' (first | with_reducible refine And.intro ?_ ?_ | with_reducible refine and_imp.2 ?_ | intro))
 all_goals try (first | (first | with_reducible rfl | with_reducible assumption | omega | (refine al ?_ ?_ <;> omega)) | exact (dC (p:=aN) (by with_reducible assumption) (by with_reducible assumption) (by with_reducible assumption)) | exact (iY (p:=aN) (by with_reducible assumption) (by with_reducible assumption)) | exact (iQ (p:=aN) (by with_reducible assumption) (by omega)) | exact rfl)
 all_goals try (refine ⟨0,?_⟩; (repeat' (first | with_reducible refine And.intro ?_ ?_ | with_reducible refine and_imp.2 ?_ | intro)))
 all_goals try (first | (first | with_reducible rfl | with_reducible assumption | omega | (refine al ?_ ?_ <;> omega)) | exact (dC (p:=aN) (by with_reducible assumption) (by with_reducible assumption) (by with_reducible assumption)) | exact (iY (p:=aN) (by with_reducible assumption) (by with_reducible assumption)) | exact (iQ (p:=aN) (by with_reducible assumption) (by omega)) | exact rfl)
 all_goals try (refine ⟨‹Nat› + 1,?_⟩; (repeat' (first | with_reducible refine And.intro ?_ ?_ | with_reducible refine and_imp.2 ?_ | intro)))
 all_goals (first | (first | with_reducible rfl | with_reducible assumption | omega | (refine al ?_ ?_ <;> omega)) | exact (dC (p:=aN) (by with_reducible assumption) (by with_reducible assumption) (by with_reducible assumption)) | exact (iY (p:=aN) (by with_reducible assumption) (by with_reducible assumption)) | exact (iQ (p:=aN) (by with_reducible assumption) (by omega)) | exact rfl)
theorem wk (l:List Opn) (r0:Bool):di aJ pj (rN l) Try.f89 [.c (.fz (.nm .opn) (l)),.c (.fn 90 [] [])] [] [.c (.bool (.atom (r0)))]=((fun (q0:Nat)=>l.length*(16:Nat)<=(140737488355328:Nat)->∃ (s0:Nat),(l=l/\(↑l.length:Int)=(↑q0:Int)/\(0:Int)=(↑s0:Int))/\(s0<=q0/\(List.take s0 l).all aM=true)/\∀ (s:Nat),s<=q0/\(List.take s l).all aM=true->((↑s:Int)<(↑q0:Int)->(0:Int)<=(↑s:Int)/\(↑s:Int)<(↑l.length:Int)/\∀ (x:Opn),l[s]? = some x->I64 x.set->I64 x.client->(aM x=false->false=r0)/\(aM x=true->I64 ((↑s:Int)+(1:Int))/\∃ (s':Nat),(l=l/\(↑q0:Int)=(↑q0:Int)/\(↑s:Int)+(1:Int)=(↑s':Int))/\(s' <= q0/\(List.take s' l).all aM=true)/\q0 - s' < q0 - s))/\((↑q0:Int)<=(↑s:Int)->true=r0)) l.length):=by kernel_rfl
theorem wM (l:List Opn):Sat Try.prog (aw aJ) 89 [.c (.fz (.nm .opn) (l)),.c (.fn 90 [] [])] [] ⟨[],[.c (.bool (.atom ((l.all (aM)))))],none,false⟩:=by
 refine aV eF (rN l) Try.func89 (by decide) (by kernel_rfl) ?_
 rw [wk]
 (repeat' (first | with_reducible refine And.intro ?_ ?_ | with_reducible refine and_imp.2 ?_ | intro))
 all_goals try (first | (first | with_reducible rfl | with_reducible assumption | omega | (refine al ?_ ?_ <;> omega)) | exact (dC (p:=aM) (by with_reducible assumption) (by with_reducible assumption) (by with_reducible assumption)) | exact (iY (p:=aM) (by with_reducible assumption) (by with_reducible assumption)) | exact (iQ (p:=aM) (by with_reducible assumption) (by omega)) | exact rfl)
 all_goals try (refine ⟨0,?_⟩; (repeat' (first | with_reducible refine And.intro ?_ ?_ | with_reducible refine and_imp.2 ?_ | intro)))
 all_goals try (first | (first | with_reducible rfl | with_reducible assumption | omega | (refine al ?_ ?_ <;> omega)) | exact (dC (p:=aM) (by with_reducible assumption) (by with_reducible assumption) (by with_reducible assumption)) | exact (iY (p:=aM) (by with_reducible assumption) (by with_reducible assumption)) | exact (iQ (p:=aM) (by with_reducible assumption) (by omega)) | exact rfl)
 all_goals try (refine ⟨‹Nat› + 1,?_⟩; (repeat' (first | with_reducible refine And.intro ?_ ?_ | with_reducible refine and_imp.2 ?_ | intro)))
 all_goals (first | (first | with_reducible rfl | with_reducible assumption | omega | (refine al ?_ ?_ <;> omega)) | exact (dC (p:=aM) (by with_reducible assumption) (by with_reducible assumption) (by with_reducible assumption)) | exact (iY (p:=aM) (by with_reducible assumption) (by with_reducible assumption)) | exact (iQ (p:=aM) (by with_reducible assumption) (by omega)) | exact rfl)
theorem o_ (l:List Sess) (r0:List Sess):uv aJ pj [] Try.f60 [.c (.fz (.nm .sess) (l))] [] [.c (.own 0)] [.row 42 (.nm .sess) (r0)]=((fun (q0:Prop)=>q0->∀ (b:Bool),(b=true->l=[])->(b=true->r0=[])/\(b=false->q0/\l=r0)) (l.length*(32:Nat)<=(140737488355328:Nat))):=by kernel_rfl
theorem px (l:List Sess):Sat Try.prog (aw aJ) 60 [.c (.fz (.nm .sess) (l))] [] ⟨[],[.c (.own 0)],some ([.row 42 (.nm .sess) ((l))]),true⟩:=by
 refine fh eF [] Try.func60 (by decide) (by kernel_rfl) ?_
 rw [o_]
 exact fun h b hb=>⟨hb,fun _=>⟨h,rfl⟩⟩
theorem sH (l:List Opn) (r0:List Opn):uv aJ pj [] Try.f61 [.c (.fz (.nm .opn) (l))] [] [.c (.own 0)] [.row 51 (.nm .opn) (r0)]=((fun (q0:Prop)=>q0->∀ (b:Bool),(b=true->l=[])->(b=true->r0=[])/\(b=false->q0/\l=r0)) (l.length*(16:Nat)<=(140737488355328:Nat))):=by kernel_rfl
theorem sm (l:List Opn):Sat Try.prog (aw aJ) 61 [.c (.fz (.nm .opn) (l))] [] ⟨[],[.c (.own 0)],some ([.row 51 (.nm .opn) ((l))]),true⟩:=by
 refine fh eF [] Try.func61 (by decide) (by kernel_rfl) ?_
 rw [sH]
 exact fun h b hb=>⟨hb,fun _=>⟨h,rfl⟩⟩
theorem ph (l:List Snap) (r0:List Snap):uv aJ pj [] Try.f62 [.c (.fz (.nm .snap) (l))] [] [.c (.own 0)] [.row 46 (.nm .snap) (r0)]=((fun (q0:Prop)=>q0->∀ (b:Bool),(b=true->l=[])->(b=true->r0=[])/\(b=false->q0/\l=r0)) (l.length*(64:Nat)<=(140737488355328:Nat))):=by kernel_rfl
theorem pK (l:List Snap):Sat Try.prog (aw aJ) 62 [.c (.fz (.nm .snap) (l))] [] ⟨[],[.c (.own 0)],some ([.row 46 (.nm .snap) ((l))]),true⟩:=by
 refine fh eF [] Try.func62 (by decide) (by kernel_rfl) ?_
 rw [ph]
 exact fun h b hb=>⟨hb,fun _=>⟨h,rfl⟩⟩
theorem qz (l:List Int) (r0:List Int):di aJ pj [] Try.f63 [.c (.fz .int (l))] [] [.c (.fz .int (r0))]=((fun (q0:Prop)=>q0->∀ (b:Bool),(b=true->l=[])->(b=true->r0=[])/\(b=false->q0/\l=r0)) (l.length*(8:Nat)<=(140737488355328:Nat))):=by kernel_rfl
theorem rG (l:List Int):Sat Try.prog (aw aJ) 63 [.c (.fz .int (l))] [] ⟨[],[.c (.fz .int ((l)))],none,false⟩:=by
 refine aV eF [] Try.func63 (by decide) (by kernel_rfl) ?_
 rw [qz]
 intros; repeat' (first | refine And.intro ?_ ?_ | intro)
 all_goals first | rfl | assumption | simp_all
def sT:dg:=(bU 63 (bR (aj (kC (cL .int)) aT) aR fun (l,_) (_)=>⟨[],[.c (.fz .int ((l)))],none,false⟩) (bU 62 (bR (aj (kC (cL (.nm .snap))) aT) aR fun (l,_) (_)=>⟨[],[.c (.own 0)],some ([.row 46 (.nm .snap) ((l))]),true⟩) (bU 61 (bR (aj (kC (cL (.nm .opn))) aT) aR fun (l,_) (_)=>⟨[],[.c (.own 0)],some ([.row 51 (.nm .opn) ((l))]),true⟩) (bU 60 (bR (aj (kC (cL (.nm .sess))) aT) aR fun (l,_) (_)=>⟨[],[.c (.own 0)],some ([.row 42 (.nm .sess) ((l))]),true⟩) (bU 89 (bR (aj (kC (cL (.nm .opn))) (aj (kC (nt 90 [] [])) aT)) aR fun (l,_,_) (_)=>⟨[],[.c (.bool (.atom ((l.all (aM)))))],none,false⟩) (bU 85 (bR (aj (kC (cL (.nm .sess))) (aj (kC (nt 86 [] [])) aT)) aR fun (l,_,_) (_)=>⟨[],[.c (.bool (.atom ((l.all (aN)))))],none,false⟩) (bU 114 (bR (aj (kC cU) aT) aR fun (n,_) (_)=>⟨[],[.c (.own 0)],some ([.row 5 .u8 ((lI n.n))]),true⟩) pj)))))))
theorem fH:bg Try.prog (aw aJ) sT:=(aA (az (ab (au bZ) aq) ao fun (l,_) (_) _=>rG l ) (aA (az (ab (au bZ) aq) ao fun (l,_) (_) _=>pK l ) (aA (az (ab (au bZ) aq) ao fun (l,_) (_) _=>sm l ) (aA (az (ab (au bZ) aq) ao fun (l,_) (_) _=>px l ) (aA (az (ab (au bZ) (ab (au cu) aq)) ao fun (l,_,_) (_) _=>wM l ) (aA (az (ab (au bZ) (ab (au cu) aq)) ao fun (l,_,_) (_) _=>wQ l ) (aA (az (ab (au Ds) aq) ao fun (n,_) (_) _=>Gr n ) eF)))))))
end Go.Proofs.Ytmmbibcfkdabeaa
namespace Go.Proofs.Ytmmbibcfkdabeaa
open Go.RowKit
theorem tM {x:Int} {l:List Int} {k:Nat} (h:eT x (l.take k) = -1) (hk:l.length<=k):-1=eT x l:=by rw [List.take_of_length_le hk] at h; exact h.symm
theorem oW {x y:Int} {l:List Int} {k:Nat} (h:eT x (l.take k) = -1) (hy:l[k]? = some y) (e:x=y):(k:Int)=eT x l:=by
 refine xS (fun j z hj hz hc=>?_) hy e
 have hm:z ∈ l.take k:=by
  obtain ⟨h1,h2⟩:=List.getElem?_eq_some_iff.1 hz
  rw [List.mem_take_iff_getElem]; exact ⟨j,by omega,h2⟩
 have:decide (0<=eT x (l.take k))=true:=by rw [uI,List.contains_iff_mem,hc]; exact hm
 rw [decide_eq_true_eq] at this; omega
theorem uc {x y:Int} {l:List Int} {k:Nat} (h:eT x (l.take k) = -1) (hy:l[k]? = some y) (e:¬ x=y):eT x (l.take (k+1)) = -1:=by
 have h0:(l.take k).contains x=false:=by
  have:=uI x (l.take k)
  rw [<- this,h]; decide
 have h1:(l.take (k+1)).contains x=false:=by
  rw [aD hy,<- Bool.not_eq_true,List.contains_iff_mem] at *
  intro hm
  rcases List.mem_append.1 hm with hm | hm
  ·exact h0 hm
  ·exact e (List.mem_singleton.1 hm)
 rw [<- uI,decide_eq_false_iff_not] at h1
 unfold eT at h1 ⊢
 split
 ·rename_i i hi; rw [hi] at h1; dsimp only at h1; omega
 ·rfl
theorem EJ {l:List Int} {k:Nat} {x:Int} (hr:cC l=true) (hx:l[k]? = some x):0<=x:=Int.le_of_lt (tu hr x (List.mem_of_getElem? hx)).1
theorem ug {l:List Int} {k:Nat} {x:Int} (hr:cC l=true) (hx:l[k]? = some x):((er (l.take k)).length+(lI x.toNat).length)*1<=140737488355328:=by
 have h1:=AJ (l:=l.take k) (fun x hx=>(tu hr x (List.mem_of_mem_take hx)).2)
 have h2:=pQ hr
 have h3:=tu hr x (List.mem_of_getElem? hx)
 have h4:=mu (n:=x.toNat) (by omega)
 rw [List.length_take] at h1; omega
def AA (l:List Int) (x:Int):List (Nat × LI):=[(2,{ σ:=Nat,F:=fun k=>([(0,one (.fz .int (l))),(1,one (.int (x))),(7,one (.int (l).length)),(8,one (.int k))],[]),J:=fun k=>k<=l.length/\eT x (l.take k) = -1,μ:=fun k=>(l).length - k })]
def vp (l:List Int):List (Nat × LI):=[(5,{ σ:=Nat,F:=fun k=>([(4,one (.own 0)),(10,one (.fz .int (l))),(11,one (.int (l).length)),(12,one (.int k))],[.row 5 .u8 ((er (l.take k)))]),J:=fun k=>k<=l.length/\cC l=true,μ:=fun k=>(l).length - k })]
theorem Cl (l:List Int) (x:Int) (r0:Int):di aJ sT (AA l x) Try.f115 [.c (.fz .int (l)),.c (.int (x))] [] [.c (.int (r0))]=((fun (q1:Int)=>(fun (q0:Nat)=>l.length*(8:Nat)<=(140737488355328:Nat)->I64 x->∃ (s0:Nat),(l=l/\x=x/\(↑l.length:Int)=(↑q0:Int)/\(0:Int)=(↑s0:Int))/\(s0<=q0/\eT x (List.take s0 l) = -q1)/\∀ (s:Nat),s<=q0/\eT x (List.take s l) = -q1->((↑s:Int)<(↑q0:Int)->(0:Int)<=(↑s:Int)/\(↑s:Int)<(↑l.length:Int)/\∀ (x_1:Int),l[s]? = some x_1->I64 x_1->(x=x_1->(↑s:Int)=r0)/\(¬x=x_1->I64 ((↑s:Int)+q1)/\∃ (s':Nat),(l=l/\x=x/\(↑q0:Int)=(↑q0:Int)/\(↑s:Int)+q1=(↑s':Int))/\(s' <= q0/\eT x (List.take s' l) = -q1)/\q0 - s' < q0 - s))/\((↑q0:Int)<=(↑s:Int) -> -q1=r0)) l.length) (1:Int)):=by kernel_rfl
theorem BN (l:List Int) (x:Int):Sat Try.prog (aw aJ) 115 [.c (.fz .int (l)),.c (.int (x))] [] ⟨[],[.c (.int ((eT x l)))],none,false⟩:=by
 refine aV fH (AA l x) Try.func115 (by decide) (by kernel_rfl) ?_
 rw [Cl]
 (repeat' (first | with_reducible refine And.intro ?_ ?_ | with_reducible refine and_imp.2 ?_ | intro))
 all_goals try (first | (first | with_reducible rfl | with_reducible assumption | omega | (refine al ?_ ?_ <;> omega)) | exact rfl | exact (tM (by with_reducible assumption) (by omega)) | exact (oW (by with_reducible assumption) (by with_reducible assumption) (by with_reducible assumption)) | exact (uc (by with_reducible assumption) (by with_reducible assumption) (by with_reducible assumption)))
 all_goals try (refine ⟨0,?_⟩; (repeat' (first | with_reducible refine And.intro ?_ ?_ | with_reducible refine and_imp.2 ?_ | intro)))
 all_goals try (first | (first | with_reducible rfl | with_reducible assumption | omega | (refine al ?_ ?_ <;> omega)) | exact rfl | exact (tM (by with_reducible assumption) (by omega)) | exact (oW (by with_reducible assumption) (by with_reducible assumption) (by with_reducible assumption)) | exact (uc (by with_reducible assumption) (by with_reducible assumption) (by with_reducible assumption)))
 all_goals try (refine ⟨‹Nat› + 1,?_⟩; (repeat' (first | with_reducible refine And.intro ?_ ?_ | with_reducible refine and_imp.2 ?_ | intro)))
 all_goals (first | (first | with_reducible rfl | with_reducible assumption | omega | (refine al ?_ ?_ <;> omega)) | exact rfl | exact (tM (by with_reducible assumption) (by omega)) | exact (oW (by with_reducible assumption) (by with_reducible assumption) (by with_reducible assumption)) | exact (uc (by with_reducible assumption) (by with_reducible assumption) (by with_reducible assumption)))
theorem CL (n:Int) (most:Int) (named:Bool) (r0:Bool):di aJ sT [] Try.f109 [.c (.int (n)),.c (.int (most)),.c (.bool (.atom (named)))] [] [.c (.bool (.atom (r0)))]=(I64 n->I64 most->(named=true->(decide ((1:Int)<=n) && decide (n<=most))=r0)/\(named=false->decide (n=(0:Int))=r0)):=by kernel_rfl
theorem Bl (n:Int) (most:Int) (named:Bool):Sat Try.prog (aw aJ) 109 [.c (.int (n)),.c (.int (most)),.c (.bool (.atom (named)))] [] ⟨[],[.c (.bool (.atom ((gu n most named))))],none,false⟩:=by
 refine aV fH [] Try.func109 (by decide) (by kernel_rfl) ?_
 rw [CL]
 grind [gu]
theorem yR (l:List Int) (r0:List UInt8) (r1:Int):di aJ sT (vp l) Try.f106 [.c (.fz .int (l))] [] [.c (.fz .u8 (r0)),.c (.int (r1))]=((fun (q1:Prop)=>(fun (q0:Nat)=>l.length*(8:Nat)<=(140737488355328:Nat)->(cC l=false->r0=[]/\(1:Int)=r1)/\(q1->∃ (s0:Nat),(l=l/\(↑l.length:Int)=(↑q0:Int)/\(0:Int)=(↑s0:Int)/\er (List.take s0 l)=[])/\(s0<=q0/\q1)/\∀ (s:Nat),s<=q0/\q1->((↑s:Int)<(↑q0:Int)->(0:Int)<=(↑s:Int)/\(↑s:Int)<(↑l.length:Int)/\∀ (x:Int),l[s]? = some x->I64 x->(0:Int)<=x/\((er (List.take s l)).length+(lI x.toNat).length)*(1:Nat)<=(140737488355328:Nat)/\I64 ((↑s:Int)+(1:Int))/\∃ (s':Nat),(l=l/\(↑q0:Int)=(↑q0:Int)/\(↑s:Int)+(1:Int)=(↑s':Int)/\er (List.take s l)++lI x.toNat=er (List.take s' l))/\(s' <= q0/\q1)/\q0 - s' < q0 - s)/\((↑q0:Int)<=(↑s:Int)->er (List.take s l)=r0/\(0:Int)=r1))) l.length) (cC l=true)):=by kernel_rfl
theorem zN (l:List Int):Sat Try.prog (aw aJ) 106 [.c (.fz .int (l))] [] ⟨[],[.c (.fz .u8 ((fO l))),.c (.int ((cQ l)))],none,false⟩:=by
 refine aV fH (vp l) Try.func106 (by decide) (by kernel_rfl) ?_
 rw [yR]
 (repeat' (first | with_reducible refine And.intro ?_ ?_ | with_reducible refine and_imp.2 ?_ | intro))
 all_goals try (first | (first | with_reducible rfl | with_reducible assumption | omega | (refine al ?_ ?_ <;> omega)) | exact rfl | exact (ke (by with_reducible assumption)).symm | exact (fC (by with_reducible assumption)) | exact (eK (by with_reducible assumption)) | exact (mG (by with_reducible assumption) (by omega)) | exact (jU (by with_reducible assumption)) | exact (EJ (by with_reducible assumption) (by with_reducible assumption)) | exact (ug (by with_reducible assumption) (by with_reducible assumption)))
 all_goals try (refine ⟨0,?_⟩; (repeat' (first | with_reducible refine And.intro ?_ ?_ | with_reducible refine and_imp.2 ?_ | intro)))
 all_goals try (first | (first | with_reducible rfl | with_reducible assumption | omega | (refine al ?_ ?_ <;> omega)) | exact rfl | exact (ke (by with_reducible assumption)).symm | exact (fC (by with_reducible assumption)) | exact (eK (by with_reducible assumption)) | exact (mG (by with_reducible assumption) (by omega)) | exact (jU (by with_reducible assumption)) | exact (EJ (by with_reducible assumption) (by with_reducible assumption)) | exact (ug (by with_reducible assumption) (by with_reducible assumption)))
 all_goals try (refine ⟨‹Nat› + 1,?_⟩; (repeat' (first | with_reducible refine And.intro ?_ ?_ | with_reducible refine and_imp.2 ?_ | intro)))
 all_goals (first | (first | with_reducible rfl | with_reducible assumption | omega | (refine al ?_ ?_ <;> omega)) | exact rfl | exact (ke (by with_reducible assumption)).symm | exact (fC (by with_reducible assumption)) | exact (eK (by with_reducible assumption)) | exact (mG (by with_reducible assumption) (by omega)) | exact (jU (by with_reducible assumption)) | exact (EJ (by with_reducible assumption) (by with_reducible assumption)) | exact (ug (by with_reducible assumption) (by with_reducible assumption)))
theorem Bf (s:State) (x:Int) (r0:Int):di aJ sT [] Try.f30 [.agg (cellsOf (.nm .state) s),.c (.int (x))] [] [.c (.int (r0))]=(I64 s.version->I64 s.next->I64 s.keep->I64 s.quota->s.sess.length*(32:Nat)<=(140737488355328:Nat)->s.opens.length*(16:Nat)<=(140737488355328:Nat)->s.snaps.length*(64:Nat)<=(140737488355328:Nat)->I64 x->I64 (ah Sess.client x s.sess)->ah Sess.client x s.sess=r0):=by kernel_rfl
theorem AP (s:State) (x:Int):Sat Try.prog (aw aJ) 30 [.agg (cellsOf (.nm .state) s),.c (.int (x))] [] ⟨[],[.c (.int ((ah Sess.client x s.sess)))],none,false⟩:=by
 refine aV fH [] Try.func30 (by decide) (by kernel_rfl) ?_
 rw [Bf]
 grind
theorem zi (s:State) (x:Int) (r0:Int):di aJ sT [] Try.f73 [.agg (cellsOf (.nm .state) s),.c (.int (x))] [] [.c (.int (r0))]=(I64 s.version->I64 s.next->I64 s.keep->I64 s.quota->s.sess.length*(32:Nat)<=(140737488355328:Nat)->s.opens.length*(16:Nat)<=(140737488355328:Nat)->s.snaps.length*(64:Nat)<=(140737488355328:Nat)->I64 x->I64 (ah Opn.set x s.opens)->ah Opn.set x s.opens=r0):=by kernel_rfl
theorem yD (s:State) (x:Int):Sat Try.prog (aw aJ) 73 [.agg (cellsOf (.nm .state) s),.c (.int (x))] [] ⟨[],[.c (.int ((ah Opn.set x s.opens)))],none,false⟩:=by
 refine aV fH [] Try.func73 (by decide) (by kernel_rfl) ?_
 rw [zi]
 grind
theorem zd (s:State) (x:Int) (r0:Int):di aJ sT [] Try.f43 [.agg (cellsOf (.nm .state) s),.c (.int (x))] [] [.c (.int (r0))]=(I64 s.version->I64 s.next->I64 s.keep->I64 s.quota->s.sess.length*(32:Nat)<=(140737488355328:Nat)->s.opens.length*(16:Nat)<=(140737488355328:Nat)->s.snaps.length*(64:Nat)<=(140737488355328:Nat)->I64 x->I64 (ah Snap.id x s.snaps)->ah Snap.id x s.snaps=r0):=by kernel_rfl
theorem An (s:State) (x:Int):Sat Try.prog (aw aJ) 43 [.agg (cellsOf (.nm .state) s),.c (.int (x))] [] ⟨[],[.c (.int ((ah Snap.id x s.snaps)))],none,false⟩:=by
 refine aV fH [] Try.func43 (by decide) (by kernel_rfl) ?_
 rw [zd]
 grind
def BT:dg:=(bU 43 (bR (aj (kT (.nm .state)) (aj (kC cI) aT)) aR fun (s,x,_) (_)=>⟨[],[.c (.int ((ah Snap.id x s.snaps)))],none,false⟩) (bU 73 (bR (aj (kT (.nm .state)) (aj (kC cI) aT)) aR fun (s,x,_) (_)=>⟨[],[.c (.int ((ah Opn.set x s.opens)))],none,false⟩) (bU 30 (bR (aj (kT (.nm .state)) (aj (kC cI) aT)) aR fun (s,x,_) (_)=>⟨[],[.c (.int ((ah Sess.client x s.sess)))],none,false⟩) (bU 106 (bR (aj (kC (cL .int)) aT) aR fun (l,_) (_)=>⟨[],[.c (.fz .u8 ((fO l))),.c (.int ((cQ l)))],none,false⟩) (bU 109 (bR (aj (kC cI) (aj (kC cI) (aj (kC cB) aT))) aR fun (n,most,named,_) (_)=>⟨[],[.c (.bool (.atom ((gu n most named))))],none,false⟩) (bU 115 (bR (aj (kC (cL .int)) (aj (kC cI) aT)) aR fun (l,x,_) (_)=>⟨[],[.c (.int ((eT x l)))],none,false⟩) sT))))))
theorem pR:bg Try.prog (aw aJ) BT:=(aA (az (ab bS (ab (au av) aq)) ao fun (s,x,_) (_) _=>An s x ) (aA (az (ab bS (ab (au av) aq)) ao fun (s,x,_) (_) _=>yD s x ) (aA (az (ab bS (ab (au av) aq)) ao fun (s,x,_) (_) _=>AP s x ) (aA (az (ab (au bZ) aq) ao fun (l,_) (_) _=>zN l ) (aA (az (ab (au av) (ab (au av) (ab (au rS) aq))) ao fun (n,most,named,_) (_) _=>Bl n most named ) (aA (az (ab (au bZ) (ab (au av) aq)) ao fun (l,x,_) (_) _=>BN l x ) fH))))))
end Go.Proofs.Ytmmbibcfkdabeaa
namespace Go.Proofs.Ytmmbibcfkdabeaa
open Go.RowKit
theorem s_ (l:List Int) (x:Int) (r0:Bool):di aJ BT [] Try.f108 [.c (.fz .int (l)),.c (.int (x))] [] [.c (.bool (.atom (r0)))]=(l.length*(8:Nat)<=(140737488355328:Nat)->I64 x->I64 (eT x l)->decide ((0:Int)<=eT x l)=r0):=by kernel_rfl
theorem tG (l:List Int) (x:Int):Sat Try.prog (aw aJ) 108 [.c (.fz .int (l)),.c (.int (x))] [] ⟨[],[.c (.bool (.atom ((l.contains x))))],none,false⟩:=by
 refine aV pR [] Try.func108 (by decide) (by kernel_rfl) ?_
 rw [s_]
 intros; exact uI _ _
theorem xw (x:Snap) (v:Int) (t:Int) (r0:Bool):di aJ BT [] Try.f105 [.agg (cellsOf (.nm .snap) x),.c (.ptr 0 0),.c (.ptr 1 0)] [.box 3 ([.int (v)]),.box 3 ([.int (t)])] [.c (.bool (.atom (r0)))]=(I64 x.id->I64 x.set->x.chunks.length*(8:Nat)<=(140737488355328:Nat)->x.tag.b.length<=(140737488355328:Nat)->(fO x.chunks).length*(1:Nat)<=(140737488355328:Nat)->I64 (cQ x.chunks)->(decide (cQ x.chunks=(0:Int)) && ba x.set (1:Int) (8:Int) && (!x.held || decide ((2:Int)<=v)) && decide ((↑x.tag.b.length:Int)<=t))=r0):=by kernel_rfl
theorem zx (x:Snap) (v:Int) (t:Int):Sat Try.prog (aw aJ) 105 [.agg (cellsOf (.nm .snap) x),.c (.ptr 0 0),.c (.ptr 1 0)] [.box 3 ([.int (v)]),.box 3 ([.int (t)])] ⟨[],[.c (.bool (.atom ((bl v t x))))],none,false⟩:=by
 refine aV pR [] Try.func105 (by decide) (by kernel_rfl) ?_
 rw [xw]
 intros; rfl
def CJ:dg:=(bU 105 (bR (aj (kT (.nm .snap)) (aj (kC (bP 0 0)) (aj (kC (bP 1 0)) aT))) (ay (bN 3 (ak cI bK)) (ay (bN 3 (ak cI bK)) aR)) fun (x,_,_,_) ((v,_),(t,_),_)=>⟨[],[.c (.bool (.atom ((bl v t x))))],none,false⟩) (bU 108 (bR (aj (kC (cL .int)) (aj (kC cI) aT)) aR fun (l,x,_) (_)=>⟨[],[.c (.bool (.atom ((l.contains x))))],none,false⟩) BT))
theorem oR:bg Try.prog (aw aJ) CJ:=(aA (az (ab bS (ab (au aI) (ab (au aI) aq))) (ag (aG (ae av aF)) (ag (aG (ae av aF)) ao)) fun (x,_,_,_) ((v,_),(t,_),_) _=>zx x v t ) (aA (az (ab (au bZ) (ab (au av) aq)) ao fun (l,x,_) (_) _=>tG l x ) pR))
end Go.Proofs.Ytmmbibcfkdabeaa
namespace Go.Proofs.Ytmmbibcfkdabeaa
open Go.RowKit
def sN (l:List Snap) (v:Int) (t:Int):List (Nat × LI):=[(2,{ σ:=Nat,F:=fun k=>([(1,one (.fn 105 [] [(0,0),(1,0)])),(7,one (.fz (.nm .snap) (l))),(8,one (.int (l).length)),(9,one (.int k))],[.box 3 ([.int ((v))]),.box 3 ([.int ((t))])]),J:=fun k=>k<=l.length/\(l.take k).all ((bl v t))=true,μ:=fun k=>(l).length - k })]
theorem BG (l:List Int) (c:Command) (r0:Bool):di aJ CJ [] Try.f107 [.c (.fz .int (l)),.c (.ptr 0 0)] [.box 29 (cellsOf (.nm .command) (c))] [.c (.bool (.atom (r0)))]=(l.length*(8:Nat)<=(140737488355328:Nat)->l.contains c.kind=r0):=by kernel_rfl
theorem Cy (l:List Int) (c:Command):Sat Try.prog (aw aJ) 107 [.c (.fz .int (l)),.c (.ptr 0 0)] [.box 29 (cellsOf (.nm .command) (c))] ⟨[],[.c (.bool (.atom ((l.contains c.kind))))],none,false⟩:=by
 refine aV oR [] Try.func107 (by decide) (by kernel_rfl) ?_
 rw [BG]
 grind
theorem vR (l:List Snap) (v:Int) (t:Int) (r0:Bool):di aJ CJ (sN l v t) Try.f104 [.c (.fz (.nm .snap) (l)),.c (.fn 105 [] [(0,0),(1,0)])] [.box 3 ([.int (v)]),.box 3 ([.int (t)])] [.c (.bool (.atom (r0)))]=((fun (q0:Nat)=>l.length*(64:Nat)<=(140737488355328:Nat)->∃ (s0:Nat),(l=l/\(↑l.length:Int)=(↑q0:Int)/\(0:Int)=(↑s0:Int)/\v=v/\t=t)/\(s0<=q0/\(List.take s0 l).all (bl v t)=true)/\∀ (s:Nat),s<=q0/\(List.take s l).all (bl v t)=true->((↑s:Int)<(↑q0:Int)->(0:Int)<=(↑s:Int)/\(↑s:Int)<(↑l.length:Int)/\∀ (x:Snap),l[s]? = some x->I64 x.id->I64 x.set->x.chunks.length*(8:Nat)<=(140737488355328:Nat)->x.tag.b.length<=(140737488355328:Nat)->(bl v t x=false->false=r0)/\(bl v t x=true->I64 ((↑s:Int)+(1:Int))/\∃ (s':Nat),(l=l/\(↑q0:Int)=(↑q0:Int)/\(↑s:Int)+(1:Int)=(↑s':Int)/\v=v/\t=t)/\(s' <= q0/\(List.take s' l).all (bl v t)=true)/\q0 - s' < q0 - s))/\((↑q0:Int)<=(↑s:Int)->true=r0)) l.length):=by kernel_rfl
theorem wO (l:List Snap) (v:Int) (t:Int):Sat Try.prog (aw aJ) 104 [.c (.fz (.nm .snap) (l)),.c (.fn 105 [] [(0,0),(1,0)])] [.box 3 ([.int (v)]),.box 3 ([.int (t)])] ⟨[],[.c (.bool (.atom ((l.all ((bl v t))))))],none,false⟩:=by
 refine aV oR (sN l v t) Try.func104 (by decide) (by kernel_rfl) ?_
 rw [vR]
 (repeat' (first | with_reducible refine And.intro ?_ ?_ | with_reducible refine and_imp.2 ?_ | intro))
 all_goals try (first | (first | with_reducible rfl | with_reducible assumption | omega | (refine al ?_ ?_ <;> omega)) | exact (dC (p:=(bl v t)) (by with_reducible assumption) (by with_reducible assumption) (by with_reducible assumption)) | exact (iY (p:=(bl v t)) (by with_reducible assumption) (by with_reducible assumption)) | exact (iQ (p:=(bl v t)) (by with_reducible assumption) (by omega)) | exact rfl)
 all_goals try (refine ⟨0,?_⟩; (repeat' (first | with_reducible refine And.intro ?_ ?_ | with_reducible refine and_imp.2 ?_ | intro)))
 all_goals try (first | (first | with_reducible rfl | with_reducible assumption | omega | (refine al ?_ ?_ <;> omega)) | exact (dC (p:=(bl v t)) (by with_reducible assumption) (by with_reducible assumption) (by with_reducible assumption)) | exact (iY (p:=(bl v t)) (by with_reducible assumption) (by with_reducible assumption)) | exact (iQ (p:=(bl v t)) (by with_reducible assumption) (by omega)) | exact rfl)
 all_goals try (refine ⟨‹Nat› + 1,?_⟩; (repeat' (first | with_reducible refine And.intro ?_ ?_ | with_reducible refine and_imp.2 ?_ | intro)))
 all_goals (first | (first | with_reducible rfl | with_reducible assumption | omega | (refine al ?_ ?_ <;> omega)) | exact (dC (p:=(bl v t)) (by with_reducible assumption) (by with_reducible assumption) (by with_reducible assumption)) | exact (iY (p:=(bl v t)) (by with_reducible assumption) (by with_reducible assumption)) | exact (iQ (p:=(bl v t)) (by with_reducible assumption) (by omega)) | exact rfl)
def CM:dg:=(bU 104 (bR (aj (kC (cL (.nm .snap))) (aj (kC (nt 105 [] [(0,0),(1,0)])) aT)) (ay (bN 3 (ak cI bK)) (ay (bN 3 (ak cI bK)) aR)) fun (l,_,_) ((v,_),(t,_),_)=>⟨[],[.c (.bool (.atom ((l.all ((bl v t))))))],none,false⟩) (bU 107 (bR (aj (kC (cL .int)) (aj (kC (bP 0 0)) aT)) (ay (bN 29 (ql (.nm .command) bK)) aR) fun (l,_,_) ((c,_),_)=>⟨[],[.c (.bool (.atom ((l.contains c.kind))))],none,false⟩) CJ))
theorem qi:bg Try.prog (aw aJ) CM:=(aA (az (ab (au bZ) (ab (au cu) aq)) (ag (aG (ae av aF)) (ag (aG (ae av aF)) ao)) fun (l,_,_) ((v,_),(t,_),_) _=>wO l v t ) (aA (az (ab (au bZ) (ab (au aI) aq)) (ag (aG (c_ aF)) ao) fun (l,_,_) ((c,_),_) _=>Cy l c ) oR))
end Go.Proofs.Ytmmbibcfkdabeaa
namespace Go.Proofs.Ytmmbibcfkdabeaa
open Go.RowKit
theorem Hk (k:Int):(if k=12 then some (Span.mk 0 64) else if k=8 then some (Span.mk 2 3) else if k=6 then some (Span.mk 0 8) else none).getD (dflt (.nm .span))=⟨(lJ k).1,(lJ k).2⟩:=by
 by_cases h1:k=12
 ·subst h1; rfl
 ·by_cases h2:k=8
  ·subst h2; rfl
  ·by_cases h3:k=6
   ·subst h3; rfl
   ·simp [lJ,rD,h1,h2,h3,dflt]; rfl
theorem Ev (c:Command) (r0:Bool):di aJ CM [] Try.f94 [.agg (cellsOf (.nm .command) c)] [] [.c (.bool (.atom (r0)))]=((fun (q9:Int)=>(fun (q8:Int)=>(fun (q7:Prop)=>(fun (q6:Bool)=>(fun (q5:Bool)=>(fun (q4:Bool)=>(fun (q3:Prop)=>(fun (q2:Prop)=>(fun (q1:Prop)=>(fun (q0:den (Sh.nm NT.span))=>I64 q8->I64 c.client->I64 c.seq->I64 c.set->I64 c.id->I64 c.n->c.chunks.length*(8:Nat)<=(140737488355328:Nat)->c.text.b.length<=(140737488355328:Nat)->(q8=(3:Int)->((decide (q0.lo<=c.n) && decide (c.n<=q0.hi))=true->(cC c.chunks=true->(q7->q1)/\(¬q7->q2))/\(cC c.chunks=false->q2))/\((decide (q0.lo<=c.n) && decide (c.n<=q0.hi))=false->q2))/\(¬q8=(3:Int)->(q8=(11:Int)->((decide (q0.lo<=c.n) && decide (c.n<=q0.hi))=true->(q3->((↑c.text.b.length:Int)<=(16:Int)->q1)/\((16:Int)<(↑c.text.b.length:Int)->q2))/\(¬q3->q2))/\((decide (q0.lo<=c.n) && decide (c.n<=q0.hi))=false->q2))/\(¬q8=(11:Int)->((decide (q0.lo<=c.n) && decide (c.n<=q0.hi))=true->(q3->(q7->q1)/\(¬q7->q2))/\(¬q3->q2))/\((decide (q0.lo<=c.n) && decide (c.n<=q0.hi))=false->q2)))) (((fun (j:Int)=>if j=(12:Int) then some (Span.mk (0:Int) (64:Int)) else (fun (j:Int)=>if j=q9 then some (Span.mk (2:Int) (3:Int)) else (fun (j:Int)=>if j=(6:Int) then some (Span.mk (0:Int) q9) else (fun (_:Int)=>none) j) j) j) q8).getD (dflt (Sh.nm NT.span)))) ((q6=true->(q5=true->(q4=true->gu c.id (1048576:Int) ([(5:Int),(7:Int),(9:Int),(10:Int),(11:Int)].contains q8)=r0)/\(q4=false->q2))/\(q5=false->q2))/\(q6=false->q2))) (false=r0)) ((↑c.chunks.length:Int)=(0:Int))) (gu c.set q9 ([(2:Int),(3:Int),(4:Int)].contains q8))) (gu c.seq (1048576:Int) ![(1:Int),q9].contains q8)) (gu c.client q9 ![q9].contains q8)) (c.text=Str.mk [])) c.kind) (8:Int)):=by kernel_rfl
theorem Fu (c:Command):Sat Try.prog (aw aJ) 94 [.agg (cellsOf (.nm .command) c)] [] ⟨[],[.c (.bool (.atom ((ei c))))],none,false⟩:=by
 refine aV qi [] Try.func94 (by decide) (by kernel_rfl) ?_
 rw [Ev]
 simp only [Hk]
 (repeat' (first | with_reducible refine And.intro ?_ ?_ | with_reducible refine and_imp.2 ?_ | intro))
 all_goals ((unfold ei Hu Hq; simp_all) <;> (intros; omega))
theorem Bp (s:State) (v:Int) (r0:Bool):di aJ CM [] Try.f91 [.agg (cellsOf (.nm .state) s),.c (.int (v))] [] [.c (.bool (.atom (r0)))]=((fun (q1:Nat)=>(fun (q0:Int)=>I64 s.version->I64 s.next->I64 s.keep->I64 s.quota->s.sess.length*(32:Nat)<=(140737488355328:Nat)->s.opens.length*(16:Nat)<=(140737488355328:Nat)->q1*(64:Nat)<=(140737488355328:Nat)->I64 v->((↑q1:Int)<=(16:Int)->I64 q0/\q0<=(1048576:Int))/\((16:Int)<(↑q1:Int)\/ai Snap.id q0 (0:Int) s.snaps=false->false=r0)/\((↑q1:Int)<=(16:Int)/\ai Snap.id q0 (0:Int) s.snaps=true->(v<(3:Int)->s.snaps.all (bl v (0:Int))=r0)/\((3:Int)<=v->s.snaps.all (bl v (16:Int))=r0))) (s.next - (1:Int))) s.snaps.length):=by kernel_rfl
theorem CS (s:State) (v:Int) (h0:1<=s.next/\s.next<=1048576):Sat Try.prog (aw aJ) 91 [.agg (cellsOf (.nm .state) s),.c (.int (v))] [] ⟨[1<=s.next/\s.next<=1048576],[.c (.bool (.atom ((cH s v))))],none,false⟩:=by
 refine aV qi [] Try.func91 (by decide) (by kernel_rfl) ?_
 rw [Bp]
 (repeat' (first | with_reducible refine And.intro ?_ ?_ | with_reducible refine and_imp.2 ?_ | intro))
 all_goals (first | (first | with_reducible rfl | with_reducible assumption | omega | (refine al ?_ ?_ <;> omega)) | ((simp only [cH,cW]; simp_all) <;> (intros; omega)) | (simp only [cH,cW]; grind))
def tg:dg:=(bU 91 (bR (aj (kT (.nm .state)) (aj (kC cI) aT)) aR fun (s,v,_) (_)=>⟨[1<=s.next/\s.next<=1048576],[.c (.bool (.atom ((cH s v))))],none,false⟩) (bU 94 (bR (aj (kT (.nm .command)) aT) aR fun (c,_) (_)=>⟨[],[.c (.bool (.atom ((ei c))))],none,false⟩) CM))
theorem gS:bg Try.prog (aw aJ) tg:=(aA (az (ab bS (ab (au av) aq)) ao fun (s,v,_) (_) hp=>CS s v (eQ hp)) (aA (az (ab bS aq) ao fun (c,_) (_) _=>Fu c ) qi))
end Go.Proofs.Ytmmbibcfkdabeaa
namespace Go.Proofs.Ytmmbibcfkdabeaa
open Go.RowKit
def cn (s:State) (at_:Nat) (k:Nat):Int:=(((s.snaps.drop (at_+1)).take k).filter fun x=>decide (x.set=(s.snaps.getD at_ (dflt (.nm .snap))).set)).length
def eH (s:State) (at_:Int):Bool:=if at_<0\/(s.snaps.length:Int)<=at_ then false else decide (cn s at_.toNat s.snaps.length<s.keep)
def nch (l:List Snap):Nat:=(l.flatMap Snap.chunks).length
def bT (c:Int) (l:List Snap):Nat:=(l.flatMap Snap.chunks).count c
def aQ (id:Int) (l:List Snap):List Snap:=l.filter fun x=>!decide (x.id=id)
theorem gd {α:Type} {l:List α} {k:Nat} {d:α} (h:(k:Int)<l.length):l[k]? = some (l.getD k d):=by
 have hk:k<l.length:=by omega
 rw [List.getD_eq_getElem?_getD,List.getElem?_eq_getElem hk]; rfl
theorem oV {l:List Int} {k:Nat} (h:ai id 64 0 (l.take k)=true) (hk:(k:Int)<l.length) (hb:ba (l.getD k (dflt .int)) 1 64=true/\((k:Int)<=0\/l.getD ((k:Int) - 1).toNat (dflt .int)<l.getD k (dflt .int))):ai id 64 0 (l.take (k+1))=true:=by
 have h1:=oI hb.1
 refine gv (key:=id) h (gd hk) ?_ h1.2
 by_cases h0:k=0
 ·subst h0; show (0:Int)<l.getD 0 (dflt .int); omega
 ·rw [eZ (by omega) (gd (d:=dflt .int) (by omega))]
  have:=hb.2.resolve_left (by omega)
  rwa [show ((k:Int) - 1).toNat=k - 1 by omega] at this
theorem po {l:List Int} {k:Nat} (hk:(k:Int)<l.length) (hb:ba (l.getD k (dflt .int)) 1 64=false\/0<(k:Int)/\l.getD k (dflt .int)<=l.getD ((k:Int) - 1).toNat (dflt .int)) (h:ai id 64 0 (l.take k)=true):false=cC l:=by
 refine gM (gd (d:=dflt .int) hk) fun h2=>?_
 rcases hb with hb | ⟨h3,h4⟩
 ·have h5:=Ix hb
  have:=wv h
  omega
 ·rw [eZ (by omega) (gd (d:=dflt .int) (by omega))] at h2
  rw [show ((k:Int) - 1).toNat=k - 1 by omega] at h4
  have:=h2.1
  dsimp only [id] at this
  omega
theorem kj {s:State} {a:Nat}:0=cn s a 0:=by simp [cn]
theorem CH {s:State} {a k:Nat}:cn s a k<=(k:Int):=by
 have h1:=List.length_filter_le (fun x:Snap=>decide (x.set=(s.snaps.getD a (dflt (.nm .snap))).set)) ((s.snaps.drop (a+1)).take k)
 have h2:((s.snaps.drop (a+1)).take k).length<=k:=by rw [List.length_take]; omega
 unfold cn; omega
theorem Ci {s:State} {a k:Nat}:0<=cn s a k:=by unfold cn; omega
theorem jJ {s:State} {a k:Nat} (h:a+1+k<=s.snaps.length) (h2:s.snaps.length*64<=140737488355328):I64 (cn s a k+1):=by
 have h1:=CH (s:=s) (a:=a) (k:=k)
 have h0:=Ci (s:=s) (a:=a) (k:=k)
 constructor <;> omega
theorem jW {s:State} {a k:Nat} {x:Snap} (hx:(s.snaps.drop (a+1))[k]? = some x) (h:x.set=(s.snaps.getD a (dflt (.nm .snap))).set):cn s a k+1=cn s a (k+1):=by
 unfold cn
 rw [aD hx,List.filter_append,List.length_append]
 simp [h]
theorem kf {s:State} {a k:Nat} {x:Snap} (hx:(s.snaps.drop (a+1))[k]? = some x) (h:¬ x.set=(s.snaps.getD a (dflt (.nm .snap))).set):cn s a k=cn s a (k+1):=by
 unfold cn
 rw [aD hx,List.filter_append,List.length_append]
 rw [show List.filter (fun x:Snap=>decide (x.set=(s.snaps.getD a (dflt (.nm .snap))).set)) [x]=[] by simp only [List.filter_cons,h,decide_false,List.filter_nil]; rfl]
 simp
theorem gL {s:State} {a:Int} {k:Nat} (h0:0<=a) (h:a+1+k<s.snaps.length):(s.snaps.drop (a.toNat+1))[k]? = some (s.snaps.getD (a+1+k).toNat (dflt (.nm .snap))):=by
 rw [List.getElem?_drop,show (a+1+k).toNat=a.toNat+1+k by omega]
 exact gd (by omega)
theorem eU {s:State} {a:Int} {k:Nat} (h0:0<=a) (ha:a<s.snaps.length) (h:(s.snaps.length:Int)<=a+1+k):decide (cn s a.toNat k<s.keep)=eH s a:=by
 unfold eH
 rw [if_neg (by omega)]
 have e:∀ m:Nat,(s.snaps.length:Int)<=a+1+m->cn s a.toNat m=cn s a.toNat s.snaps.length:=fun m hm=>by
  unfold cn
  rw [List.take_of_length_le (by rw [List.length_drop]; omega),List.take_of_length_le (by rw [List.length_drop]; omega)]
 rw [e k h]
theorem eY {s:State} {a:Int} (h:a<0\/(s.snaps.length:Int)<=a):false=eH s a:=by unfold eH; rw [if_pos h]
theorem yu {id:Int} {l:List Snap} {k:Nat} {x y:Snap} (h:¬ x.id=id) (hx:l[k]? = some x) (hy:l[k]? = some y):aQ id (l.take k)++[y]=aQ id (l.take (k+1)):=by
 rw [hx] at hy; cases hy
 unfold aQ; rw [aD hx,List.filter_append]; simp [h]
theorem y_ {id:Int} {l:List Snap} {k:Nat} {x:Snap} (hx:l[k]? = some x) (h:x.id=id):aQ id (l.take k)=aQ id (l.take (k+1)):=by
 unfold aQ; rw [aD hx,List.filter_append]; simp [h]
theorem tk {id:Int} {l:List Snap} {k:Nat} (h:(l.length:Int)<=k):aQ id (l.take k)=aQ id l:=by rw [List.take_of_length_le (by omega)]
theorem tn {id:Int} {l:List Snap} {k:Nat} {x:Snap} (h:(k:Int)<l.length) (hl:l.length*64<=140737488355328):((aQ id (l.take k)).length+[x].length)*64<=140737488355328:=by
 have h1:=List.length_filter_le (fun x:Snap=>!decide (x.id=id)) (l.take k)
 rw [List.length_take] at h1
 unfold aQ
 simp only [List.length_cons,List.length_nil]
 omega
theorem yH {c:Int} {l:List Snap} {k:Nat} {x:Snap} (hx:l[k]? = some x):bT c (l.take (k+1))=bT c (l.take k)+x.chunks.count c:=by
 unfold bT; rw [aD hx]; simp
theorem Ez {c:Int} {l:List Snap} {k q:Nat} (hl:nch l<=1048576) (hk:k<l.length):bT c (l.take k)+((l.getD k (dflt (.nm .snap))).chunks.take q).count c<=1048576:=by
 have hx:=gd (d:=dflt (.nm .snap)) (l:=l) (k:=k) (by omega)
 have h1:=yH (c:=c) hx
 have h2:bT c (l.take (k+1))<=nch l:=by
  unfold bT nch
  refine Nat.le_trans List.count_le_length ?_
  rw [<- List.take_append_drop (k+1) l,List.flatMap_append,List.length_append,List.take_append_drop]; omega
 have h3:((l.getD k (dflt (.nm .snap))).chunks.take q).count c<=(l.getD k (dflt (.nm .snap))).chunks.count c:=(List.take_sublist _ _).count_le _
 omega
theorem FU {l:List Snap} {k:Nat} {x:Snap} (hx:l[k]? = some x):l.getD k (dflt (.nm .snap))=x:=by rw [List.getD_eq_getElem?_getD,hx]; rfl
theorem ov {c:Int} {l:List Snap}:(0:Int)=(bT c (l.take 0):Int):=rfl
theorem jT {c:Int} {l:List Snap} {k:Nat} {m:List Int}:(bT c (l.take k):Int)=((bT c (l.take k)+(m.take 0).count c:Nat):Int):=rfl
theorem nO {c:Int} {l:List Snap} {k:Nat} (h:(l.length:Int)<=k):(bT c (l.take k):Int)=(bT c l:Int):=by rw [List.take_of_length_le (by omega)]
theorem oF {l:List Snap} {k q:Nat} {x y:Snap} (h:(q:Int)<x.chunks.length) (hx:l[k]? = some x) (hy:l[k]? = some y):(q:Int)<y.chunks.length:=by rw [hx] at hy; cases hy; exact h
theorem nH {n k s:Nat} {m:Nat} (h:k=(s,m).1) (hk:k<n):n - (k+1)<n - s:=by dsimp only at h; omega
theorem nM {c:Int} {l:List Snap} {k q:Nat} (hl:nch l<=1048576) (hk:k<l.length):I64 (((bT c (l.take k)+((l.getD k (dflt (.nm .snap))).chunks.take q).count c:Nat):Int)+1):=by
 have:=Ez (c:=c) (q:=q) hl hk; constructor <;> omega
theorem oH {c v:Int} {l:List Snap} {k q:Nat} {x:Snap} (h:v=c) (hv:x.chunks[q]? = some v) (hx:l[k]? = some x):((bT c (l.take k)+((l.getD k (dflt (.nm .snap))).chunks.take q).count c:Nat):Int)+1=((bT c (l.take k)+((l.getD k (dflt (.nm .snap))).chunks.take (q+1)).count c:Nat):Int):=by
 rw [FU hx,aD hv,List.count_append,h]; simp; omega
theorem nI {c v:Int} {l:List Snap} {k q:Nat} {x:Snap} (h:¬ v=c) (hv:x.chunks[q]? = some v) (hx:l[k]? = some x):((bT c (l.take k)+((l.getD k (dflt (.nm .snap))).chunks.take q).count c:Nat):Int)=((bT c (l.take k)+((l.getD k (dflt (.nm .snap))).chunks.take (q+1)).count c:Nat):Int):=by
 have h2:([v]:List Int).count c=0:=by simp [h]
 rw [FU hx,aD hv,List.count_append,h2]; rfl
theorem nZ {c:Int} {l:List Snap} {k q:Nat} {x:Snap} (h:(x.chunks.length:Int)<=q) (hx:l[k]? = some x):((bT c (l.take k)+((l.getD k (dflt (.nm .snap))).chunks.take q).count c:Nat):Int)=(bT c (l.take (k+1)):Int):=by
 rw [FU hx,List.take_of_length_le (i:=q) (l:=x.chunks) (by omega),yH hx]
theorem ow {l:List Snap} {k q:Nat} {x:Snap} (h:(q:Int)<x.chunks.length) (hx:l[k]? = some x):q+1<=(l.getD k (dflt (.nm .snap))).chunks.length:=by rw [FU hx]; omega
theorem oq {l:List Snap} {k q:Nat} {x:Snap} (h:(q:Int)<x.chunks.length) (hx:l[k]? = some x):(l.getD k (dflt (.nm .snap))).chunks.length - (q+1)<(l.getD k (dflt (.nm .snap))).chunks.length - q:=by rw [FU hx]; omega
def Db (l:List Int):List (Nat × LI):=[(2,{ σ:=Nat,F:=fun k=>([(0,one (.fz .int (l))),(3,one (.int k))],[]),J:=fun k=>k<=l.length/\ai id 64 0 (l.take k)=true,μ:=fun k=>l.length - k })]
def AS (st:State) (x:Int):List (Nat × LI):=[(2,{ σ:=Nat,F:=fun k=>([(1,one (.int (x))),(2,one (.ptr 0 0)),(5,one (.int k))],[.box 26 (cellsOf (.nm .state) ((st)))]),J:=fun k=>k<=st.snaps.length/\ah Snap.id x (st.snaps.take k) = -1,μ:=fun k=>st.snaps.length - k })]
def Ak (st:State) (at_:Int):List (Nat × LI):=[(5,{ σ:=Nat,F:=fun k=>([(1,one (.int (at_))),(2,one (.ptr 0 0)),(5,one (.int (cn st at_.toNat k))),(6,one (.int (at_+1+k)))],[.box 26 (cellsOf (.nm .state) ((st)))]),J:=fun k=>at_.toNat+1+k<=st.snaps.length/\0<=at_,μ:=fun k=>st.snaps.length - k })]
def Dx (st:State) (at_:Int):List (Nat × LI):=[(5,{ σ:=Nat,F:=fun k=>([(1,one (.int (at_))),(2,one (.ptr 0 0)),(5,one (.int (cn st at_.toNat k))),(21,one (.fz (.nm .snap) (st.snaps.drop (at_+1).toNat))),(22,one (.int (st.snaps.drop (at_+1).toNat).length)),(23,one (.int k))],[.box 26 (cellsOf (.nm .state) ((st)))]),J:=fun k=>at_.toNat+1+k<=st.snaps.length/\0<=at_,μ:=fun k=>st.snaps.length - k })]
def uD (l:List Snap) (c:Int):List (Nat × LI):=[(3,{ σ:=Nat,F:=fun k=>([(0,one (.fz (.nm .snap) (l))),(1,one (.int (c))),(5,one (.int (bT c (l.take k)))),(6,one (.int k))],[]),J:=fun k=>k<=l.length,μ:=fun k=>l.length - k }),(6,{ σ:=Nat × Nat,F:=fun q=>([(0,one (.fz (.nm .snap) (l))),(1,one (.int (c))),(5,one (.int ((bT c (l.take q.1)+((l.getD q.1 (dflt (.nm .snap))).chunks.take q.2).count c:Nat)))),(6,one (.int q.1)),(7,one (.int q.2))],[]),J:=fun q=>q.1<l.length/\q.2<=(l.getD q.1 (dflt (.nm .snap))).chunks.length,μ:=fun q=>(l.getD q.1 (dflt (.nm .snap))).chunks.length - q.2,R:=some fun q0 q=>q.1=q0.1 })]
theorem EE (l:List Int) (r0:Bool):di aJ tg (Db l) Try.f39 [.c (.fz .int (l))] [] [.c (.bool (.atom (r0)))]=((fun (q4:Int)=>(fun (q3:Int)=>(fun (q2:den Sh.int)=>(fun (q1:Int)=>(fun (q0:Int)=>l.length*(8:Nat)<=(140737488355328:Nat)->∃ (s0:Nat),(l=l/\q1=(↑s0:Int))/\(s0<=l.length/\ai id q4 q1 (List.take s0 l)=true)/\∀ (s:Nat),(fun (q7:den Sh.int)=>(fun (q6:Int)=>(fun (q5:Prop)=>s<=l.length/\ai id q4 q1 (List.take s l)=true->(q6<q3->q1<=q6/\q6<q3/\(q5->q1<=q6/\q6<q3)/\(q5->I64 (q6 - q0))/\(q5->q1<=q6 - q0/\q6 - q0<q3)/\(I64 q7->(q5->I64 q7)->(q5->I64 (l.getD (q6 - q0).toNat q2))->(ba q7 q0 q4=false\/q1<q6/\q7<=l.getD (q6 - q0).toNat q2->false=r0)/\(ba q7 q0 q4=true/\(q6<=q1\/l.getD (q6 - q0).toNat q2<q7)->I64 (q6+q0)/\∃ (s':Nat),(l=l/\q6+q0=(↑s':Int))/\(s' <= l.length/\ai id q4 q1 (List.take s' l)=true)/\l.length - s' < l.length - s)))/\(q3<=q6->(decide (q0<=q3) && decide (q3<=(8:Int)))=r0)) (ba q7 q0 q4=true/\q1<q6)) (↑s:Int)) (l.getD s q2)) (1:Int)) (0:Int)) (dflt Sh.int)) (↑l.length:Int)) (64:Int)):=by kernel_rfl
theorem Fl (l:List Int):Sat Try.prog (aw aJ) 39 [.c (.fz .int (l))] [] ⟨[],[.c (.bool (.atom ((cC l))))],none,false⟩:=by
 refine aV gS (Db l) Try.func39 (by decide) (by kernel_rfl) ?_
 rw [EE]
 (repeat' (first | with_reducible refine And.intro ?_ ?_ | with_reducible refine and_imp.2 ?_ | intro))
 all_goals try (first | (first | with_reducible rfl | with_reducible assumption | omega | (refine al ?_ ?_ <;> omega)) | exact rfl | exact (oV (by with_reducible assumption) (by omega) (And.intro (by with_reducible assumption) (by assumption))) | exact (po (by omega) (by assumption) (by with_reducible assumption)) | exact (jY (by with_reducible assumption) (by omega)))
 all_goals try (refine ⟨0,?_⟩; (repeat' (first | with_reducible refine And.intro ?_ ?_ | with_reducible refine and_imp.2 ?_ | intro)))
 all_goals try (first | (first | with_reducible rfl | with_reducible assumption | omega | (refine al ?_ ?_ <;> omega)) | exact rfl | exact (oV (by with_reducible assumption) (by omega) (And.intro (by with_reducible assumption) (by assumption))) | exact (po (by omega) (by assumption) (by with_reducible assumption)) | exact (jY (by with_reducible assumption) (by omega)))
 all_goals try (refine ⟨‹Nat› + 1,?_⟩; (repeat' (first | with_reducible refine And.intro ?_ ?_ | with_reducible refine and_imp.2 ?_ | intro)))
 all_goals (first | (first | with_reducible rfl | with_reducible assumption | omega | (refine al ?_ ?_ <;> omega)) | exact rfl | exact (oV (by with_reducible assumption) (by omega) (And.intro (by with_reducible assumption) (by assumption))) | exact (po (by omega) (by assumption) (by with_reducible assumption)) | exact (jY (by with_reducible assumption) (by omega)))
theorem BO (st:State) (x:Int) (r0:Int):di aJ tg (AS st x) Try.f18 [.agg (cellsOf (.nm .state) st),.c (.int (x))] [] [.c (.int (r0))]=((fun (q2:Int)=>(fun (q1:List Snap)=>(fun (q0:Prop)=>I64 st.version->I64 st.next->I64 st.keep->I64 st.quota->st.sess.length*(32:Nat)<=(140737488355328:Nat)->st.opens.length*(16:Nat)<=(140737488355328:Nat)->q1.length*(64:Nat)<=(140737488355328:Nat)->I64 x->∃ (s0:Nat),(x=x/\(0:Int)=(↑s0:Int)/\q0)/\(s0<=q1.length/\ah Snap.id x (List.take s0 q1) = -q2)/\∀ (s:Nat),s<=q1.length/\ah Snap.id x (List.take s q1) = -q2->((↑s:Int)<(↑q1.length:Int)->(0:Int)<=(↑s:Int)/\(↑s:Int)<(↑q1.length:Int)/\∀ (x_1:Snap),q1[s]? = some x_1->I64 x_1.id->I64 x_1.set->x_1.chunks.length*(8:Nat)<=(140737488355328:Nat)->x_1.tag.b.length<=(140737488355328:Nat)->(x_1.id=x->(↑s:Int)=r0)/\(¬x_1.id=x->I64 ((↑s:Int)+q2)/\∃ (s':Nat),(x=x/\(↑s:Int)+q2=(↑s':Int)/\q0)/\(s' <= q1.length/\ah Snap.id x (List.take s' q1) = -q2)/\q1.length - s' < q1.length - s))/\((↑q1.length:Int)<=(↑s:Int) -> -q2=r0)) (st.version=st.version/\st.next=st.next/\st.keep=st.keep/\st.quota=st.quota/\st.sess=st.sess/\st.opens=st.opens/\q1=q1)) st.snaps) (1:Int)):=by kernel_rfl
theorem CP (st:State) (x:Int):Sat Try.prog (aw aJ) 18 [.agg (cellsOf (.nm .state) st),.c (.int (x))] [] ⟨[],[.c (.int ((ah Snap.id x st.snaps)))],none,false⟩:=by
 refine aV gS (AS st x) Try.func18 (by decide) (by kernel_rfl) ?_
 rw [BO]
 (repeat' (first | with_reducible refine And.intro ?_ ?_ | with_reducible refine and_imp.2 ?_ | intro))
 all_goals try (first | (first | with_reducible rfl | with_reducible assumption | omega | (refine al ?_ ?_ <;> omega)) | exact (dm (key:=Snap.id)) | exact (bW (key:=Snap.id) (by with_reducible assumption) (by with_reducible assumption) (by with_reducible assumption)) | exact (cD (key:=Snap.id) (by with_reducible assumption) (by omega)) | exact (cF (key:=Snap.id) (by with_reducible assumption) (by with_reducible assumption) (by with_reducible assumption)))
 all_goals try (refine ⟨0,?_⟩; (repeat' (first | with_reducible refine And.intro ?_ ?_ | with_reducible refine and_imp.2 ?_ | intro)))
 all_goals try (first | (first | with_reducible rfl | with_reducible assumption | omega | (refine al ?_ ?_ <;> omega)) | exact (dm (key:=Snap.id)) | exact (bW (key:=Snap.id) (by with_reducible assumption) (by with_reducible assumption) (by with_reducible assumption)) | exact (cD (key:=Snap.id) (by with_reducible assumption) (by omega)) | exact (cF (key:=Snap.id) (by with_reducible assumption) (by with_reducible assumption) (by with_reducible assumption)))
 all_goals try (refine ⟨‹Nat› + 1,?_⟩; (repeat' (first | with_reducible refine And.intro ?_ ?_ | with_reducible refine and_imp.2 ?_ | intro)))
 all_goals (first | (first | with_reducible rfl | with_reducible assumption | omega | (refine al ?_ ?_ <;> omega)) | exact (dm (key:=Snap.id)) | exact (bW (key:=Snap.id) (by with_reducible assumption) (by with_reducible assumption) (by with_reducible assumption)) | exact (cD (key:=Snap.id) (by with_reducible assumption) (by omega)) | exact (cF (key:=Snap.id) (by with_reducible assumption) (by with_reducible assumption) (by with_reducible assumption)))
theorem CF (st:State) (at_:Int) (r0:Bool):di aJ tg (Ak st at_) Try.f19 [.agg (cellsOf (.nm .state) st),.c (.int (at_))] [] [.c (.bool (.atom (r0)))]=((fun (q8:Nat)=>(fun (q7:Int)=>(fun (q6:den (Sh.nm NT.snap))=>(fun (q5:Prop)=>(fun (q4:Nat)=>(fun (q3:List Snap)=>(fun (q2:den (Sh.nm NT.snap))=>(fun (q1:Int)=>(fun (q0:Prop)=>I64 st.version->I64 st.next->I64 st.keep->I64 st.quota->st.sess.length*(32:Nat)<=q8->st.opens.length*(16:Nat)<=q8->q3.length*(64:Nat)<=q8->I64 at_->(at_<(0:Int)\/(↑q3.length:Int)<=at_->false=r0)/\(q5/\at_<(↑q3.length:Int)->I64 q1/\∃ (s0:Nat),(fun (q11:Int)=>(fun (q10:Nat)=>(fun (q9:Nat)=>(at_=at_/\(0:Int)=cn st q4 s0/\q1=q1+(↑s0:Int)/\q0)/\(q10+s0<=q9/\q5)/\∀ (s:Nat),(fun (q13:Int)=>(fun (q12:Int)=>q10+s<=q9/\q5->(q12<q11->(0:Int)<=q12/\q12<q11/\q5/\at_<q11/\(I64 (q3.getD q12.toNat q6).id->I64 (q3.getD q12.toNat q6).set->(q3.getD q12.toNat q6).chunks.length*(8:Nat)<=q8->(q3.getD q12.toNat q6).tag.b.length<=q8->I64 q2.id->I64 q2.set->q2.chunks.length*(8:Nat)<=q8->q2.tag.b.length<=q8->((q3.getD q12.toNat q6).set=q2.set->I64 (q13+q7)/\I64 (q12+q7)/\∃ (s':Nat),(at_=at_/\q13+q7=cn st q4 s' /\ q12+q7=q1+(↑s':Int)/\q0)/\(q10+s' <= q9/\q5)/\q9 - s' < q9 - s)/\(¬(q3.getD q12.toNat q6).set=q2.set->I64 (q12+q7)/\∃ (s':Nat),(at_=at_/\q13=cn st q4 s' /\ q12+q7=q1+(↑s':Int)/\q0)/\(q10+s' <= q9/\q5)/\q9 - s' < q9 - s)))/\(q11<=q12->decide (q13<st.keep)=r0)) (q1+(↑s:Int))) (cn st q4 s)) q3.length) (q4+(1:Nat))) (↑q3.length:Int))) (st.version=st.version/\st.next=st.next/\st.keep=st.keep/\st.quota=st.quota/\st.sess=st.sess/\st.opens=st.opens/\q3=q3)) (at_+q7)) (q3.getD q4 q6)) st.snaps) at_.toNat) ((0:Int)<=at_)) (dflt (Sh.nm NT.snap))) (1:Int)) (140737488355328:Nat)):=by kernel_rfl
theorem BI (st:State) (at_:Int):Sat Try.prog (aw aJ) 19 [.agg (cellsOf (.nm .state) st),.c (.int (at_))] [] ⟨[],[.c (.bool (.atom ((eH st at_))))],none,false⟩:=by
 refine aV gS (Ak st at_) Try.func19 (by decide) (by kernel_rfl) ?_
 rw [CF]
 (repeat' (first | with_reducible refine And.intro ?_ ?_ | with_reducible refine and_imp.2 ?_ | intro))
 all_goals try (first | (first | with_reducible rfl | with_reducible assumption | omega | (refine al ?_ ?_ <;> omega)) | exact kj | exact (eY (by assumption)) | exact (jJ (by omega) (by omega)) | exact (eU (by omega) (by omega) (by omega)) | exact (jW (gL (by omega) (by omega)) (by with_reducible assumption)) | exact (kf (gL (by omega) (by omega)) (by with_reducible assumption)))
 all_goals try (refine ⟨0,?_⟩; (repeat' (first | with_reducible refine And.intro ?_ ?_ | with_reducible refine and_imp.2 ?_ | intro)))
 all_goals try (first | (first | with_reducible rfl | with_reducible assumption | omega | (refine al ?_ ?_ <;> omega)) | exact kj | exact (eY (by assumption)) | exact (jJ (by omega) (by omega)) | exact (eU (by omega) (by omega) (by omega)) | exact (jW (gL (by omega) (by omega)) (by with_reducible assumption)) | exact (kf (gL (by omega) (by omega)) (by with_reducible assumption)))
 all_goals try (refine ⟨‹Nat› + 1,?_⟩; (repeat' (first | with_reducible refine And.intro ?_ ?_ | with_reducible refine and_imp.2 ?_ | intro)))
 all_goals (first | (first | with_reducible rfl | with_reducible assumption | omega | (refine al ?_ ?_ <;> omega)) | exact kj | exact (eY (by assumption)) | exact (jJ (by omega) (by omega)) | exact (eU (by omega) (by omega) (by omega)) | exact (jW (gL (by omega) (by omega)) (by with_reducible assumption)) | exact (kf (gL (by omega) (by omega)) (by with_reducible assumption)))
theorem ES (st:State) (at_:Int) (r0:Bool):di aJ tg (Dx st at_) Try.f80 [.agg (cellsOf (.nm .state) st),.c (.int (at_))] [] [.c (.bool (.atom (r0)))]=((fun (q8:Int)=>(fun (q7:Nat)=>(fun (q6:den (Sh.nm NT.snap))=>(fun (q5:Int)=>(fun (q4:Prop)=>(fun (q3:Nat)=>(fun (q2:List Snap)=>(fun (q1:Nat)=>(fun (q0:Prop)=>I64 st.version->I64 st.next->I64 st.keep->I64 st.quota->st.sess.length*(32:Nat)<=q7->st.opens.length*(16:Nat)<=q7->q2.length*(64:Nat)<=q7->I64 at_->(at_<q8\/(↑q2.length:Int)<=at_->false=r0)/\(q4/\at_<(↑q2.length:Int)->I64 (at_+q5)/\q8<=at_+q5/\at_+q5<=(↑q2.length:Int)/\∃ (s0:Nat),(fun (q13:Nat)=>(fun (q12:Nat)=>(fun (q11:den (Sh.nm NT.snap))=>(fun (q10:List (den (Sh.nm NT.snap)))=>(fun (q9:Int)=>(at_=at_/\q8=cn st q3 s0/\q10=q10/\(↑q10.length:Int)=q9/\q8=(↑s0:Int)/\q0)/\(q13+s0<=q12/\q4)/\∀ (s:Nat),(fun (q15:Int)=>(fun (q14:Int)=>q13+s<=q12/\q4->((↑s:Int)<q9->q8<=(↑s:Int)/\(↑s:Int)<(↑q10.length:Int)/\∀ (x:Snap),q10[s]? = some x->I64 x.id->I64 x.set->x.chunks.length*(8:Nat)<=q7->x.tag.b.length<=q7->q4/\at_<(↑q2.length:Int)/\(I64 q11.id->I64 q11.set->q11.chunks.length*(8:Nat)<=q7->q11.tag.b.length<=q7->(x.set=q11.set->I64 (q15+q5)/\I64 q14/\∃ (s':Nat),(at_=at_/\q15+q5=cn st q3 s' /\ q10=q10/\q9=q9/\q14=(↑s':Int)/\q0)/\(q13+s' <= q12/\q4)/\q12 - s' < q12 - s)/\(¬x.set=q11.set->I64 q14/\∃ (s':Nat),(at_=at_/\q15=cn st q3 s' /\ q10=q10/\q9=q9/\q14=(↑s':Int)/\q0)/\(q13+s' <= q12/\q4)/\q12 - s' < q12 - s)))/\(q9<=(↑s:Int)->decide (q15<st.keep)=r0)) ((↑s:Int)+q5)) (cn st q3 s)) (↑(List.drop q1 q2).length:Int)) (List.drop q1 q2)) (q2.getD q3 q6)) q2.length) (q3+(1:Nat)))) (st.version=st.version/\st.next=st.next/\st.keep=st.keep/\st.quota=st.quota/\st.sess=st.sess/\st.opens=st.opens/\q2=q2)) (at_+q5).toNat) st.snaps) at_.toNat) (q8<=at_)) (1:Int)) (dflt (Sh.nm NT.snap))) (140737488355328:Nat)) (0:Int)):=by kernel_rfl
theorem Es (st:State) (at_:Int):Sat Try.prog (aw aJ) 80 [.agg (cellsOf (.nm .state) st),.c (.int (at_))] [] ⟨[],[.c (.bool (.atom ((eH st at_))))],none,false⟩:=by
 refine aV gS (Dx st at_) Try.func80 (by decide) (by kernel_rfl) ?_
 rw [ES]
 (repeat' (first | with_reducible refine And.intro ?_ ?_ | with_reducible refine and_imp.2 ?_ | intro))
 all_goals try (first | (first | with_reducible rfl | with_reducible assumption | omega | (refine al ?_ ?_ <;> omega)) | exact kj | exact (eY (by assumption)) | exact (jJ (by omega) (by omega)) | exact (eU (by omega) (by omega) (by rw [List.length_drop] at *; omega)) | exact (jW (by rw [show (at_+1).toNat=at_.toNat+1 by omega] at *; assumption) (by with_reducible assumption)) | exact (by have:=‹_<((List.length (List.drop _ _):Nat):Int)›; rw [List.length_drop] at this; omega) | exact (kf (by rw [show (at_+1).toNat=at_.toNat+1 by omega] at *; assumption) (by with_reducible assumption)))
 all_goals try (refine ⟨0,?_⟩; (repeat' (first | with_reducible refine And.intro ?_ ?_ | with_reducible refine and_imp.2 ?_ | intro)))
 all_goals try (first | (first | with_reducible rfl | with_reducible assumption | omega | (refine al ?_ ?_ <;> omega)) | exact kj | exact (eY (by assumption)) | exact (jJ (by omega) (by omega)) | exact (eU (by omega) (by omega) (by rw [List.length_drop] at *; omega)) | exact (jW (by rw [show (at_+1).toNat=at_.toNat+1 by omega] at *; assumption) (by with_reducible assumption)) | exact (by have:=‹_<((List.length (List.drop _ _):Nat):Int)›; rw [List.length_drop] at this; omega) | exact (kf (by rw [show (at_+1).toNat=at_.toNat+1 by omega] at *; assumption) (by with_reducible assumption)))
 all_goals try (refine ⟨‹Nat› + 1,?_⟩; (repeat' (first | with_reducible refine And.intro ?_ ?_ | with_reducible refine and_imp.2 ?_ | intro)))
 all_goals (first | (first | with_reducible rfl | with_reducible assumption | omega | (refine al ?_ ?_ <;> omega)) | exact kj | exact (eY (by assumption)) | exact (jJ (by omega) (by omega)) | exact (eU (by omega) (by omega) (by rw [List.length_drop] at *; omega)) | exact (jW (by rw [show (at_+1).toNat=at_.toNat+1 by omega] at *; assumption) (by with_reducible assumption)) | exact (by have:=‹_<((List.length (List.drop _ _):Nat):Int)›; rw [List.length_drop] at this; omega) | exact (kf (by rw [show (at_+1).toNat=at_.toNat+1 by omega] at *; assumption) (by with_reducible assumption)))
theorem zy (l:List Snap) (c:Int) (r0:Int):di aJ tg (uD l c) Try.f40 [.c (.fz (.nm .snap) (l)),.c (.int (c))] [] [.c (.int (r0))]=((fun (q4:Int)=>(fun (q3:Int)=>(fun (q2:Int)=>(fun (q1:Nat)=>(fun (q0:den (Sh.nm NT.snap))=>l.length*(64:Nat)<=(140737488355328:Nat)->I64 c->∃ (s0:Nat),(l=l/\c=c/\q3=(↑(bT c (List.take s0 l)):Int)/\q3=(↑s0:Int))/\s0<=q1/\∀ (s:Nat),s<=q1->((↑s:Int)<q4->∃ (s0:Nat × Nat),(fun (q5:Nat)=>(l=l/\c=c/\(↑(bT c (List.take s l)):Int)=(↑(bT c (List.take q5 l)+List.count c (List.take s0.snd (l.getD q5 q0).chunks)):Int)/\(↑s:Int)=(↑q5:Int)/\q3=(↑s0.snd:Int))/\(q5<q1/\s0.snd<=(l.getD q5 q0).chunks.length)/\q5=q5/\∀ (s_1:Nat × Nat),(fun (q9:List Int)=>(fun (q8:Int)=>(fun (q7:Int)=>(fun (q6:Int)=>s_1.fst<q1/\s_1.snd<=q9.length->s_1.fst=q5->q3<=q7/\q7<q4/\∀ (x:Snap),l[s_1.fst]? = some x->I64 x.id->I64 x.set->x.chunks.length*(8:Nat)<=(140737488355328:Nat)->x.tag.b.length<=(140737488355328:Nat)->(q8<(↑x.chunks.length:Int)->q3<=q7/\q7<q4/\∀ (x:Snap),l[s_1.fst]? = some x->I64 x.id->I64 x.set->x.chunks.length*(8:Nat)<=(140737488355328:Nat)->x.tag.b.length<=(140737488355328:Nat)->q3<=q8/\q8<(↑x.chunks.length:Int)/\∀ (x_1:Int),x.chunks[s_1.snd]? = some x_1->I64 x_1->(x_1=c->I64 (q6+q2)/\I64 (q8+q2)/\∃ (s':Nat × Nat),(fun (q10:List Int)=>(l=l/\c=c/\q6+q2=(↑(bT c (List.take s'.fst l)+List.count c (List.take s'.snd q10)):Int)/\q7=(↑s'.fst:Int)/\q8+q2=(↑s'.snd:Int))/\(s'.fst<q1/\s'.snd<=q10.length)/\s'.fst=q5/\q10.length - s'.snd<q9.length - s_1.snd) (l.getD s'.fst q0).chunks)/\(¬x_1=c->I64 (q8+q2)/\∃ (s':Nat × Nat),(fun (q11:List Int)=>(l=l/\c=c/\q6=(↑(bT c (List.take s'.fst l)+List.count c (List.take s'.snd q11)):Int)/\q7=(↑s'.fst:Int)/\q8+q2=(↑s'.snd:Int))/\(s'.fst<q1/\s'.snd<=q11.length)/\s'.fst=q5/\q11.length - s'.snd<q9.length - s_1.snd) (l.getD s'.fst q0).chunks))/\((↑x.chunks.length:Int)<=q8->I64 (q7+q2)/\∃ (s':Nat),(l=l/\c=c/\q6=(↑(bT c (List.take s' l)):Int)/\q7+q2=(↑s':Int))/\s' <= q1/\q1 - s' < q1 - s)) (↑(bT c (List.take s_1.fst l)+List.count c (List.take s_1.snd q9)):Int)) (↑s_1.fst:Int)) (↑s_1.snd:Int)) (l.getD s_1.fst q0).chunks) s0.fst)/\(q4<=(↑s:Int)->(↑(bT c (List.take s l)):Int)=r0)) (dflt (Sh.nm NT.snap))) l.length) (1:Int)) (0:Int)) (↑l.length:Int)):=by kernel_rfl
theorem xH (l:List Snap) (c:Int) (h0:nch l<=1048576):Sat Try.prog (aw aJ) 40 [.c (.fz (.nm .snap) (l)),.c (.int (c))] [] ⟨[nch l<=1048576],[.c (.int (((bT c l:Int))))],none,false⟩:=by
 refine aV gS (uD l c) Try.func40 (by decide) (by kernel_rfl) ?_
 rw [zy]
 (repeat' (first | with_reducible refine And.intro ?_ ?_ | with_reducible refine and_imp.2 ?_ | intro))
 all_goals try (first | (first | with_reducible rfl | with_reducible assumption | omega | (refine al ?_ ?_ <;> omega)) | exact ov | exact jT | exact (nM (by with_reducible assumption) (by with_reducible assumption)) | exact (oH (by with_reducible assumption) (by with_reducible assumption) (by with_reducible assumption)) | exact (nI (by with_reducible assumption) (by with_reducible assumption) (by with_reducible assumption)) | exact (nZ (by with_reducible assumption) (by with_reducible assumption)) | exact (ow (by with_reducible assumption) (by with_reducible assumption)) | exact (oq (by with_reducible assumption) (by with_reducible assumption)) | exact (nO (by omega)) | exact (oF (by with_reducible assumption) (by with_reducible assumption) (by with_reducible assumption)) | exact (nH (by with_reducible assumption) (by omega)))
 all_goals try (refine ⟨0,?_⟩; (repeat' (first | with_reducible refine And.intro ?_ ?_ | with_reducible refine and_imp.2 ?_ | intro)))
 all_goals try (first | (first | with_reducible rfl | with_reducible assumption | omega | (refine al ?_ ?_ <;> omega)) | exact ov | exact jT | exact (nM (by with_reducible assumption) (by with_reducible assumption)) | exact (oH (by with_reducible assumption) (by with_reducible assumption) (by with_reducible assumption)) | exact (nI (by with_reducible assumption) (by with_reducible assumption) (by with_reducible assumption)) | exact (nZ (by with_reducible assumption) (by with_reducible assumption)) | exact (ow (by with_reducible assumption) (by with_reducible assumption)) | exact (oq (by with_reducible assumption) (by with_reducible assumption)) | exact (nO (by omega)) | exact (oF (by with_reducible assumption) (by with_reducible assumption) (by with_reducible assumption)) | exact (nH (by with_reducible assumption) (by omega)))
 all_goals try (refine ⟨(‹Nat›,0),?_⟩; (repeat' (first | with_reducible refine And.intro ?_ ?_ | with_reducible refine and_imp.2 ?_ | intro)))
 all_goals try (first | (first | with_reducible rfl | with_reducible assumption | omega | (refine al ?_ ?_ <;> omega)) | exact ov | exact jT | exact (nM (by with_reducible assumption) (by with_reducible assumption)) | exact (oH (by with_reducible assumption) (by with_reducible assumption) (by with_reducible assumption)) | exact (nI (by with_reducible assumption) (by with_reducible assumption) (by with_reducible assumption)) | exact (nZ (by with_reducible assumption) (by with_reducible assumption)) | exact (ow (by with_reducible assumption) (by with_reducible assumption)) | exact (oq (by with_reducible assumption) (by with_reducible assumption)) | exact (nO (by omega)) | exact (oF (by with_reducible assumption) (by with_reducible assumption) (by with_reducible assumption)) | exact (nH (by with_reducible assumption) (by omega)))
 all_goals try (refine ⟨(‹Nat × Nat›.1,‹Nat × Nat›.2+1),?_⟩; (repeat' (first | with_reducible refine And.intro ?_ ?_ | with_reducible refine and_imp.2 ?_ | intro)))
 all_goals try (first | (first | with_reducible rfl | with_reducible assumption | omega | (refine al ?_ ?_ <;> omega)) | exact ov | exact jT | exact (nM (by with_reducible assumption) (by with_reducible assumption)) | exact (oH (by with_reducible assumption) (by with_reducible assumption) (by with_reducible assumption)) | exact (nI (by with_reducible assumption) (by with_reducible assumption) (by with_reducible assumption)) | exact (nZ (by with_reducible assumption) (by with_reducible assumption)) | exact (ow (by with_reducible assumption) (by with_reducible assumption)) | exact (oq (by with_reducible assumption) (by with_reducible assumption)) | exact (nO (by omega)) | exact (oF (by with_reducible assumption) (by with_reducible assumption) (by with_reducible assumption)) | exact (nH (by with_reducible assumption) (by omega)))
 all_goals try (refine ⟨‹Nat × Nat›.1+1,?_⟩; (repeat' (first | with_reducible refine And.intro ?_ ?_ | with_reducible refine and_imp.2 ?_ | intro)))
 all_goals try (first | (first | with_reducible rfl | with_reducible assumption | omega | (refine al ?_ ?_ <;> omega)) | exact ov | exact jT | exact (nM (by with_reducible assumption) (by with_reducible assumption)) | exact (oH (by with_reducible assumption) (by with_reducible assumption) (by with_reducible assumption)) | exact (nI (by with_reducible assumption) (by with_reducible assumption) (by with_reducible assumption)) | exact (nZ (by with_reducible assumption) (by with_reducible assumption)) | exact (ow (by with_reducible assumption) (by with_reducible assumption)) | exact (oq (by with_reducible assumption) (by with_reducible assumption)) | exact (nO (by omega)) | exact (oF (by with_reducible assumption) (by with_reducible assumption) (by with_reducible assumption)) | exact (nH (by with_reducible assumption) (by omega)))
 all_goals (first | (first | with_reducible rfl | with_reducible assumption | omega | (refine al ?_ ?_ <;> omega)) | exact ov | exact jT | exact (nM (by with_reducible assumption) (by with_reducible assumption)) | exact (oH (by with_reducible assumption) (by with_reducible assumption) (by with_reducible assumption)) | exact (nI (by with_reducible assumption) (by with_reducible assumption) (by with_reducible assumption)) | exact (nZ (by with_reducible assumption) (by with_reducible assumption)) | exact (ow (by with_reducible assumption) (by with_reducible assumption)) | exact (oq (by with_reducible assumption) (by with_reducible assumption)) | exact (nO (by omega)) | exact (oF (by with_reducible assumption) (by with_reducible assumption) (by with_reducible assumption)) | exact (nH (by with_reducible assumption) (by omega)))
def tE:dg:=(bU 40 (bR (aj (kC (cL (.nm .snap))) (aj (kC cI) aT)) aR fun (l,c,_) (_)=>⟨[nch l<=1048576],[.c (.int (((bT c l:Int))))],none,false⟩) (bU 80 (bR (aj (kT (.nm .state)) (aj (kC cI) aT)) aR fun (st,at_,_) (_)=>⟨[],[.c (.bool (.atom ((eH st at_))))],none,false⟩) (bU 19 (bR (aj (kT (.nm .state)) (aj (kC cI) aT)) aR fun (st,at_,_) (_)=>⟨[],[.c (.bool (.atom ((eH st at_))))],none,false⟩) (bU 18 (bR (aj (kT (.nm .state)) (aj (kC cI) aT)) aR fun (st,x,_) (_)=>⟨[],[.c (.int ((ah Snap.id x st.snaps)))],none,false⟩) (bU 39 (bR (aj (kC (cL .int)) aT) aR fun (l,_) (_)=>⟨[],[.c (.bool (.atom ((cC l))))],none,false⟩) tg)))))
theorem gI:bg Try.prog (aw aJ) tE:=(aA (az (ab (au bZ) (ab (au av) aq)) ao fun (l,c,_) (_) hp=>xH l c (eQ hp)) (aA (az (ab bS (ab (au av) aq)) ao fun (st,at_,_) (_) _=>Es st at_ ) (aA (az (ab bS (ab (au av) aq)) ao fun (st,at_,_) (_) _=>BI st at_ ) (aA (az (ab bS (ab (au av) aq)) ao fun (st,x,_) (_) _=>CP st x ) (aA (az (ab (au bZ) aq) ao fun (l,_) (_) _=>Fl l ) gS)))))
end Go.Proofs.Ytmmbibcfkdabeaa
namespace Go.Proofs.Ytmmbibcfkdabeaa
open Go.RowKit
theorem te {α:Type} {l:List α} {k:Nat} {d:α} (h:(k:Int)<l.length):l.set k (l.getD k d)=l:=by
 have hk:k<l.length:=by omega
 rw [List.getD_eq_getElem?_getD,List.getElem?_eq_getElem hk]; exact List.set_getElem_self hk
def cJ (l:List Snap) (k:Nat):Nat:=((List.range k).filter fun (i:Nat)=>decide (0<bT ((i:Int)+1) l)).length
def distF (l:List Snap):Nat:=cJ l 64
theorem tI {l:List Snap} {k:Nat} (h:0<((bT ((k:Int)+1) l:Nat):Int)):(cJ l k:Int)+1=(cJ l (k+1):Int):=by
 unfold cJ; rw [List.range_succ,List.filter_append,List.length_append]
 have:0<bT ((k:Int)+1) l:=by omega
 simp [this]
theorem tO {l:List Snap} {k:Nat} (h:((bT ((k:Int)+1) l:Nat):Int)<=0):(cJ l k:Int)=(cJ l (k+1):Int):=by
 unfold cJ; rw [List.range_succ,List.filter_append,List.length_append]
 have:¬ 0<bT ((k:Int)+1) l:=by omega
 simp [this]
theorem uZ {l:List Snap} {k:Nat}:cJ l k<=k:=by
 unfold cJ; refine Nat.le_trans (List.length_filter_le _ _) ?_; simp
theorem tQ {l:List Snap} {k:Nat} (h:k<=64):I64 ((cJ l k:Int)+1):=by
 have:=uZ (l:=l) (k:=k); constructor <;> omega
theorem tU {l:List Snap} {k:Nat} (h:k<=64) (h2:64<(k:Int)+1):(cJ l k:Int)=(distF l:Int):=by
 rw [show k=64 by omega]; rfl
def zj (st:State):List (Nat × LI):=[(5,{ σ:=Nat,F:=fun k=>([(1,one (.ptr 0 0)),(2,one (.ptr 1 0)),(18,one (.int st.snaps.length)),(19,one (.int k))],[.box 26 ([.int ((st.version)),.int ((st.next)),.int ((st.keep)),.int ((st.quota)),.own 2,.own 3,.own 4]),.box 26 ([.int ((0)),.int ((0)),.int ((0)),.int ((0)),.em true,.em true,.em true]),.row 42 (.nm .sess) ((st.sess)),.row 51 (.nm .opn) ((st.opens)),.row 46 (.nm .snap) ((st.snaps))]),J:=fun k=>k<=st.snaps.length,μ:=fun k=>st.snaps.length - k })]
def me (l:List Snap):List (Nat × LI):=[(3,{ σ:=Nat,F:=fun k=>([(0,one (.fz (.nm .snap) (l))),(3,one (.int (cJ l k))),(4,one (.int (k+1)))],[]),J:=fun k=>k<=64,μ:=fun k=>64 - k })]
theorem Fw (st:State) (v:Int) (r0:Int):di aJ tE [] Try.f64 [.agg (cellsOf (.nm .state) st),.c (.int (v))] [] [.c (.int (r0))]=((fun (q12:Int)=>(fun (q11:Bool)=>(fun (q10:Bool)=>(fun (q9:Int)=>(fun (q8:Int)=>(fun (q7:Int)=>(fun (q6:Int)=>(fun (q5:Int)=>(fun (q4:Int)=>(fun (q3:Prop)=>(fun (q2:Prop)=>(fun (q1:Prop)=>(fun (q0:Prop)=>I64 st.version->I64 q12->I64 st.keep->I64 q8->st.sess.length*(32:Nat)<=(140737488355328:Nat)->st.opens.length*(16:Nat)<=(140737488355328:Nat)->st.snaps.length*(64:Nat)<=(140737488355328:Nat)->I64 v->(ba v q6 q9=false->q6=r0)/\(ba v q6 q9=true->(v<q9->q5<=q7/\q5<=q7/\(((q0/\ba q8 q4 q4=true)/\q1)/\q2->q6<=q12/\q12<=q7)/\((((q3\/ba q8 q4 q4=false)\/ai Sess.client q5 q4 st.sess=false\/q11=false)\/ai Opn.set q5 q4 st.opens=false\/q10=false)\/cH st v=false->(6:Int)=r0)/\((((q0/\ba q8 q4 q4=true)/\q1)/\q2)/\cH st v=true->q4=r0))/\(q9<=v->q5<=q7/\q5<=q7/\(((q0/\ba q8 q4 (64:Int)=true)/\q1)/\q2->q6<=q12/\q12<=q7)/\((((q3\/ba q8 q4 (64:Int)=false)\/ai Sess.client q5 q4 st.sess=false\/q11=false)\/ai Opn.set q5 q4 st.opens=false\/q10=false)\/cH st v=false->(6:Int)=r0)/\((((q0/\ba q8 q4 (64:Int)=true)/\q1)/\q2)/\cH st v=true->q4=r0)))) ((ba st.version q6 q9=true/\ba q12 q6 q7=true)/\ba st.keep q4 q5=true)) (ai Sess.client q5 q4 st.sess=true/\q11=true)) (ai Opn.set q5 q4 st.opens=true/\q10=true)) ((ba st.version q6 q9=false\/ba q12 q6 q7=false)\/ba st.keep q4 q5=false)) (0:Int)) (8:Int)) (1:Int)) (1048576:Int)) st.quota) (3:Int)) (st.opens.all aM)) (st.sess.all aN)) st.next):=by kernel_rfl
theorem Fy (st:State) (v:Int):Sat Try.prog (aw aJ) 64 [.agg (cellsOf (.nm .state) st),.c (.int (v))] [] ⟨[],[.c (.int ((mayF st v)))],none,false⟩:=by
 refine aV gI [] Try.func64 (by decide) (by kernel_rfl) ?_
 rw [Fw]
 (repeat' (first | with_reducible refine And.intro ?_ ?_ | with_reducible refine and_imp.2 ?_ | intro))
 all_goals (first | (first | with_reducible rfl | with_reducible assumption | omega | (refine al ?_ ?_ <;> omega)) | exact (oI (a:=1) (b:=1048576) (by with_reducible assumption)).1 | exact (oI (a:=1) (b:=1048576) (by with_reducible assumption)).2 | (simp only [mayF,bY,gV,fK]; grind))
theorem CU (c:Command) (v:Int) (r0:Int):di aJ tE [] Try.f65 [.agg (cellsOf (.nm .command) c),.c (.int (v))] [] [.c (.int (r0))]=((fun (q0:Int)=>I64 c.kind->I64 c.client->I64 c.seq->I64 c.set->I64 c.id->I64 c.n->c.chunks.length*(8:Nat)<=(140737488355328:Nat)->c.text.b.length<=(140737488355328:Nat)->I64 v->I64 q0->(jE v=false\/q0=(0:Int)->(1:Int)=r0)/\(jE v=true/\¬q0=(0:Int)->(v<q0->(10:Int)=r0)/\(q0<=v->(ei c=false->(1:Int)=r0)/\(ei c=true->(0:Int)=r0)))) (fR c.kind)):=by kernel_rfl
theorem CN (c:Command) (v:Int):Sat Try.prog (aw aJ) 65 [.agg (cellsOf (.nm .command) c),.c (.int (v))] [] ⟨[],[.c (.int ((bO c v)))],none,false⟩:=by
 refine aV gI [] Try.func65 (by decide) (by kernel_rfl) ?_
 rw [CU]
 rw [show jE v=ba v 1 3 from rfl]
 (repeat' (first | with_reducible refine And.intro ?_ ?_ | with_reducible refine and_imp.2 ?_ | intro))
 all_goals (first | (first | with_reducible rfl | with_reducible assumption | omega | (refine al ?_ ?_ <;> omega)) | (simp only [bO]; grind))
theorem Cs (st:State) (r0:Int) (r1:Int) (r2:Int) (r3:Int) (r4:List Sess) (r5:List Opn) (r6:List Snap):uv aJ tE (zj st) Try.f27 [.agg (cellsOf (.nm .state) st)] [] [.agg ([.int (r0),.int (r1),.int (r2),.int (r3),.own 0,.own 1,.own 2])] [.row 42 (.nm .sess) (r4),.row 51 (.nm .opn) (r5),.row 46 (.nm .snap) (r6)]=((fun (q4:Int)=>(fun (q3:Nat)=>(fun (q2:den (Sh.nm NT.snap))=>(fun (q1:Prop)=>(fun (q0:List Snap)=>I64 q4->I64 st.next->I64 st.keep->I64 st.quota->st.sess.length*(32:Nat)<=q3->st.opens.length*(16:Nat)<=q3->q0.length*(64:Nat)<=q3->∃ (s0:Nat),(fun (q5:Nat)=>((↑q0.length:Int)=(↑q5:Int)/\(0:Int)=(↑s0:Int)/\q4=q4/\st.next=st.next/\st.keep=st.keep/\st.quota=st.quota/\q1/\q1/\q1/\q1/\st.sess=st.sess/\st.opens=st.opens/\q0=q0)/\s0<=q5/\∀ (s:Nat),(fun (q7:den (Sh.nm NT.snap))=>(fun (q6:Prop)=>s<=q5->((↑s:Int)<(↑q5:Int)->(0:Int)<=(↑s:Int)/\(↑s:Int)<(↑q0.length:Int)/\(0:Int)<=(↑s:Int)/\(↑s:Int)<(↑q0.length:Int)/\(I64 q7.id->I64 q7.set->q6->q7.tag.b.length<=q3->q6->I64 q7.id->I64 q7.set->q6->q7.tag.b.length<=q3->I64 ((↑s:Int)+(1:Int))/\∃ (s':Nat),((↑q5:Int)=(↑q5:Int)/\(↑s:Int)+(1:Int)=(↑s':Int)/\q4=q4/\st.next=st.next/\st.keep=st.keep/\st.quota=st.quota/\q1/\q1/\q1/\q1/\st.sess=st.sess/\st.opens=st.opens/\q0.set s q7=q0)/\s' <= q5/\q5 - s' < q5 - s))/\((↑q5:Int)<=(↑s:Int)->q4=r0/\st.next=r1/\st.keep=r2/\st.quota=r3/\st.sess=r4/\st.opens=r5/\q0=r6)) (q7.chunks.length*(8:Nat)<=q3)) (q0.getD s q2)) q0.length) st.snaps) ((0:Int)=(0:Int))) (dflt (Sh.nm NT.snap))) (140737488355328:Nat)) st.version):=by kernel_rfl
theorem By (st:State):Sat Try.prog (aw aJ) 27 [.agg (cellsOf (.nm .state) st)] [] ⟨[],[.agg ([.int ((st.version)),.int ((st.next)),.int ((st.keep)),.int ((st.quota)),.own 0,.own 1,.own 2])],some ([.row 42 (.nm .sess) ((st.sess)),.row 51 (.nm .opn) ((st.opens)),.row 46 (.nm .snap) ((st.snaps))]),true⟩:=by
 refine fh gI (zj st) Try.func27 (by decide) (by kernel_rfl) ?_
 rw [Cs]
 (repeat' (first | with_reducible refine And.intro ?_ ?_ | with_reducible refine and_imp.2 ?_ | intro))
 all_goals try (first | (first | with_reducible rfl | with_reducible assumption | omega | (refine al ?_ ?_ <;> omega)) | exact rfl | exact (te (by omega)))
 all_goals try (refine ⟨0,?_⟩; (repeat' (first | with_reducible refine And.intro ?_ ?_ | with_reducible refine and_imp.2 ?_ | intro)))
 all_goals try (first | (first | with_reducible rfl | with_reducible assumption | omega | (refine al ?_ ?_ <;> omega)) | exact rfl | exact (te (by omega)))
 all_goals try (refine ⟨‹Nat› + 1,?_⟩; (repeat' (first | with_reducible refine And.intro ?_ ?_ | with_reducible refine and_imp.2 ?_ | intro)))
 all_goals (first | (first | with_reducible rfl | with_reducible assumption | omega | (refine al ?_ ?_ <;> omega)) | exact rfl | exact (te (by omega)))
theorem xp (x:Snap) (n:Int) (v:Int) (r0:Bool):di aJ (Bv tE) [] Try.f34 [.agg (cellsOf (.nm .snap) x),.c (.int (n)),.c (.int (v))] [] [.c (.bool (.atom (r0)))]=(I64 x.id->I64 x.set->x.chunks.length*(8:Nat)<=(140737488355328:Nat)->x.tag.b.length<=(140737488355328:Nat)->I64 n->I64 v->(cC x.chunks && ba x.id (1:Int) (fg n (1:Int)) && ba x.set (1:Int) (8:Int) && (!x.held || decide ((2:Int)<=v)) && decide ((↑x.tag.b.length:Int)<=(16:Int)) && (decide (x.tag=Str.mk []) || decide ((3:Int)<=v)))=r0):=by kernel_rfl
theorem xt (x:Snap) (n:Int) (v:Int):Sat Try.prog (aw aJ) 34 [.agg (cellsOf (.nm .snap) x),.c (.int (n)),.c (.int (v))] [] ⟨[],[.c (.bool (.atom ((dO n v x))))],none,false⟩:=by
 refine aV (uH gI) [] Try.func34 (by decide) (by kernel_rfl) ?_
 rw [xp]
 intros; rfl
theorem qO (l:List Snap) (r0:Int):di aJ tE (me l) Try.f21 [.c (.fz (.nm .snap) (l))] [] [.c (.int (r0))]=((fun (q1:Nat)=>(fun (q0:Int)=>l.length*q1<=(140737488355328:Nat)->∃ (s0:Nat),(l=l/\(0:Int)=(↑(cJ l s0):Int)/\q0=(↑s0:Int)+q0)/\s0<=q1/\∀ (s:Nat),(fun (q3:Int)=>(fun (q2:Int)=>s<=q1->(q2<=(64:Int)->nch l<=(1048576:Nat)/\(I64 (↑(bT q2 l):Int)->((0:Int)<(↑(bT q2 l):Int)->I64 (q3+q0)/\I64 (q2+q0)/\∃ (s':Nat),(l=l/\q3+q0=(↑(cJ l s'):Int)/\q2+q0=(↑s':Int)+q0)/\s' <= q1/\q1 - s' < q1 - s)/\((↑(bT q2 l):Int)<=(0:Int)->I64 (q2+q0)/\∃ (s':Nat),(l=l/\q3=(↑(cJ l s'):Int)/\q2+q0=(↑s':Int)+q0)/\s' <= q1/\q1 - s' < q1 - s)))/\((64:Int)<q2->q3=r0)) ((↑s:Int)+q0)) (↑(cJ l s):Int)) (1:Int)) (64:Nat)):=by kernel_rfl
theorem re (l:List Snap) (h0:nch l<=1048576):Sat Try.prog (aw aJ) 21 [.c (.fz (.nm .snap) (l))] [] ⟨[nch l<=1048576],[.c (.int (((distF l:Int))))],none,false⟩:=by
 refine aV gI (me l) Try.func21 (by decide) (by kernel_rfl) ?_
 rw [qO]
 (repeat' (first | with_reducible refine And.intro ?_ ?_ | with_reducible refine and_imp.2 ?_ | intro))
 all_goals try (first | (first | with_reducible rfl | with_reducible assumption | omega | (refine al ?_ ?_ <;> omega)) | exact rfl | exact (tI (by omega)) | exact (tO (by omega)) | exact (tQ (by omega)) | exact (tU (by omega) (by omega)))
 all_goals try (refine ⟨0,?_⟩; (repeat' (first | with_reducible refine And.intro ?_ ?_ | with_reducible refine and_imp.2 ?_ | intro)))
 all_goals try (first | (first | with_reducible rfl | with_reducible assumption | omega | (refine al ?_ ?_ <;> omega)) | exact rfl | exact (tI (by omega)) | exact (tO (by omega)) | exact (tQ (by omega)) | exact (tU (by omega) (by omega)))
 all_goals try (refine ⟨‹Nat› + 1,?_⟩; (repeat' (first | with_reducible refine And.intro ?_ ?_ | with_reducible refine and_imp.2 ?_ | intro)))
 all_goals (first | (first | with_reducible rfl | with_reducible assumption | omega | (refine al ?_ ?_ <;> omega)) | exact rfl | exact (tI (by omega)) | exact (tO (by omega)) | exact (tQ (by omega)) | exact (tU (by omega) (by omega)))
def qV:dg:=(bU 21 (bR (aj (kC (cL (.nm .snap))) aT) aR fun (l,_) (_)=>⟨[nch l<=1048576],[.c (.int (((distF l:Int))))],none,false⟩) (bU 34 (bR (aj (kT (.nm .snap)) (aj (kC cI) (aj (kC cI) aT))) aR fun (x,n,v,_) (_)=>⟨[],[.c (.bool (.atom ((dO n v x))))],none,false⟩) (bU 27 (bR (aj (kT (.nm .state)) aT) aR fun (st,_) (_)=>⟨[],[.agg ([.int ((st.version)),.int ((st.next)),.int ((st.keep)),.int ((st.quota)),.own 0,.own 1,.own 2])],some ([.row 42 (.nm .sess) ((st.sess)),.row 51 (.nm .opn) ((st.opens)),.row 46 (.nm .snap) ((st.snaps))]),true⟩) (bU 65 (bR (aj (kT (.nm .command)) (aj (kC cI) aT)) aR fun (c,v,_) (_)=>⟨[],[.c (.int ((bO c v)))],none,false⟩) (bU 64 (bR (aj (kT (.nm .state)) (aj (kC cI) aT)) aR fun (st,v,_) (_)=>⟨[],[.c (.int ((mayF st v)))],none,false⟩) tE)))))
theorem jg:bg Try.prog (aw aJ) qV:=(aA (az (ab (au bZ) aq) ao fun (l,_) (_) hp=>re l (eQ hp)) (aA (az (ab bS (ab (au av) (ab (au av) aq))) ao fun (x,n,v,_) (_) _=>xt x n v ) (aA (az (ab bS aq) ao fun (st,_) (_) _=>By st ) (aA (az (ab bS (ab (au av) aq)) ao fun (c,v,_) (_) _=>CN c v ) (aA (az (ab bS (ab (au av) aq)) ao fun (st,v,_) (_) _=>Fy st v ) gI)))))
end Go.Proofs.Ytmmbibcfkdabeaa
