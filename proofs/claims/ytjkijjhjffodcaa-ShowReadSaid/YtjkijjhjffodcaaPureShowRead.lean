/- ShowRead. -/
import Derived.Test.YtjkijjhjffodcaaPb2
